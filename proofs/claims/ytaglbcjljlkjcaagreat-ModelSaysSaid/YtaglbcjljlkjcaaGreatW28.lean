/- Part 28. -/
import Derived.Test.YtaglbcjljlkjcaaGreatW27
namespace Go.Proofs.YtaglbcjljlkjcaaGreat.Av
open Tryz
set_option linter.all false
set_option maxRecDepth 4000
set_option maxHeartbeats 8000000
open List renaming length->ln,replicate->pb,range->pi,take->py,drop->p5
open Inhabited renaming default->dd
variable {c:Cf}{y:Cy}{f3:Int}{ins:List In}{R:Nat->DR}
section
variable {P:Program} {K0:List Nat} {F:Fr K0} {m:Nat} {ops:Array Oper} {rest:List Oper} {fs:List FP} {tm:List (Nat×AV)} {h:List (Nat×xW)}
def Xb {Q:List FP->St->Prop} (t K sz:Nat) (hv:zK tm t= .s (.slice none 0 0)) (u:(zD h K).isNone=true) (z:Nat.ble 1 sz=true) (h1:yN P F m ops false rest ⟨(t,.ref K 0 0)::tm,(K,.arr sz [] true)::h⟩ fs Q):yN P F m ops false rest ⟨tm,h⟩ fs Q:=
 ⟨λa w R=>h1.run a w (wK.virt R t K sz hv u z)⟩
end
def Fy (m:Ms) (h:YO m):zN 122 [zW m] [] (bA false) []:=by
 obtain⟨k,A,u,z⟩:=m;obtain⟨h1,h2⟩:=h;dsimp only at h1 h2;subst h1;have c:=kz h2;rw[show zW ⟨k,[],u,z⟩= .agg [iA k,zE yA [],zE iA u,zE yA z]from Z]at *; refine eM call122 λF hF=>?_
 exact ng c
def Z6 (l:List Ms) (u:ln l<=1000000) (h:∀m∈l,YO m):zN 184 [zE zW l,.fn 122 []] [] (iA (-1)) []:=by
 have hl:=zA zW l;refine eM call184 λF hF=>?_
 refine WW ?_;refine zU (l) [] [] [0,1,7] [8,0,1,7] Z (λi f4 T U=>⟨(8,iA i)::T,U⟩) (Lq ?_ ?_)
 .intro i f4 x post hx hi;have A:=yJ zW hx hi;have z:=zX hx hi;have c:=Fy x (h x (xA hx));clear hx;refine zS c ?_;rfl
 .exact ly
def Ey (l:List Ms) (u:ln l<=1000000) (h:∀m∈l,YO m):zN 121 [zE zW l,.fn 122 []] [] (zE zW l) []:=by
 have c:=Z6 l u h;have hl:=zA zW l;refine eM call121 λF hF=>?_
 exact ng c
def ET (l:List Ms) (u:ln l<=1000000) (h:∀m∈l,YO m):zN 51 [zE zW l] [] (zE zW l) []:=by
 have c:=Ey l u h;have hl:=zA zW l;refine eM call51 λF hF=>?_
 exact ng c
def tj (y:Int):0<=fT y/\fT y<256:=by
 unfold fT;have e:IntKind.u8.wrap y=y % 256:=by simp[IntKind.wrap,IntKind.signed,IntKind.bits]
 rw[e];omega
def ij {l:List Vw} (h:∀v∈l,ia v):BY (YF l):=λx hx=>by
 unfold YF at hx;obtain⟨y,u,hx⟩:=zEw.1 hx;obtain⟨v,hv,rfl⟩:=zCa.1 u;have hb:=h v hv;have hc:=OF hb.c (ln v.co) (zAw _) hb.n;have z:=fU (ln v.co) hb.n;have A:=S4 (n:=vJ v.co (ln v.co)) hc.1 zB;unfold l9 at hx;simp only[zD6,zD1,zCf,zCa]at hx
 rcases hx with rfl|rfl|rfl|⟨y,_,rfl⟩
 .unfold FW
  split<;>split<;>omega
 .omega
 all_goals exact tj _
def Ay (l:List Rq) (v:List Vw) (f3:Int) (n:Nat):BY (TW l v f3 n):=λx hx=>by
 unfold TW at hx;obtain⟨i,_,rfl⟩:=zCa.1 hx;unfold Id;split
 .have:=Jd ((l.getD (i/3) dd).legs.getD (i % 3) dd) v f3;omega
 .omega
theorem dx (d:wC) (A:0<=d.rg.ag.req/\d.rg.ag.req<=4) (v:List Vw) (f3:Int) (B:0<=f3) (C:f3<=1073741824) (z:ln v<=4) (hb:∀w∈v,ia w):YO (LB d v f3):=by
 have h1:=cW hb;have h2:=dP [f3];have u:(TW d.rq v f3 (d.rg.ag.req.toNat*3)).length=d.rg.ag.req.toNat*3:=by simp[TW]
 refine⟨rfl,by dsimp only[LB,Cv];omega,.cons zB .nil,by simp[LB,Cv],?_,.inl Z,.inl ⟨rfl,rfl⟩,?_⟩
 .intro x hx
  rcases zBc.1 hx with hx|hx
  .exact ij hb x hx
  .exact Ay _ _ _ _ x hx
 .show(([f3].map jR).flatten).length+1+(YF v++TW d.rq v f3 (d.rg.ag.req.toNat*3)).length<=200
  grind
def QG (f3:Int) (v:List Vw):Ms:=⟨21,[],[f3],YF v⟩
theorem zz (v:List Vw) (f3:Int) (z:0<=f3) (A:f3<=1073741824) (u:ln v<=4) (hb:∀w∈v,ia w):YO (QG f3 v):=by
 have h1:=cW hb;have h2:=dP [f3];refine⟨rfl,by dsimp only[QG];omega,.cons zB .nil,by simp[QG],ij hb,.inl Z,.inl ⟨rfl,rfl⟩,?_⟩
 grind [YO,QG]
def yz (f3:Int) (v:List Vw) (u:ln v<=1000) (hb:∀w∈v,ia w):zN 52 [iA f3,zE vR v] [] (zW (QG f3 v)) []:=by
 have B:=Hp v u hb;have A:=zA yA (YF v);refine eM call52 λF hF=>?_
 refine zS B ?_;refine zH [] Z Z ?_ Z;exact zBb (λz=>AV.agg [iA 21,AV.sl false [],AV.sl false [iA f3],AV.sl false z]) zAt
def fG (e:En):List Int:=[e.ag,e.ki,e.co]
def Qg (f3:Int) (u:List En):Ms:=⟨18,[],f3::((u.take 16).map fG).flatten,[]⟩
theorem Y6 (f3:Int) (O:0<=f3) (S:f3<=1073741824) (z:List En) (h:∀e∈z,Nj e):YO (Qg f3 z):=by
 have hl:(z.take 16).length<=16:=by rw[zBg];omega
 have A:∀e∈z.take 16,Nj e:=λe u=>h e (zCo u)
 unfold Qg;generalize z.take 16=l at*
 have C:((l.map fG).flatten).length=3*ln l:=by
  clear A hl
  induction l with
  |nil=>rfl
  |cons e l B=>rw[zCb,zDp,zAv,B,zA6];show 3+_=_;omega
 have M:((((l.map fG).flatten).map jR).flatten).length<=4*ln l:=by
  clear C hl
  induction l with
  |nil=>simp
  |cons e l B=>
   have B:=B λx hx=>A x (by simp[hx])
   have u:=A e zV;have e1:=DA (n:=e.ag) (by have:=u.a;omega);have I:=S6 (n:=e.ki) (by have:=u.k;omega);have e3:=DA (n:=e.co) (by have:=u.c;omega);rw[zCb,zDp,zAy,zEc,zAv,zA6]
   grind [YO,Qg,fG]
 have G:=(gC f3).2;refine⟨rfl,by dsimp only;omega,?_,by dsimp only;rw[zA6];omega,λx hx=>(by cases hx),.inr Z,.inr ⟨.inr Z,(ln l:Int),?_,zB,by show(0:Int)<=_;omega,by show _<=(16:Int);omega⟩,?_⟩
 .refine .cons zB ?_;intro x hx;obtain⟨y,E,hx⟩:=zEw.1 hx;obtain⟨e,u,rfl⟩:=zCa.1 E;have hk:=A e u;have h1:=hk.a;have h2:=hk.k;have L:=hk.c
  grind [YO,Qg,fG]
 .show((f3::(l.map fG).flatten).length:Int)=1+3*(ln l:Int)
  grind
 all_goals grind
def Pg (d:wC) (z:List Vw) (f3:Int) (k:Nat) (R:List (List Ms)) (u:List En):List Ms:=(R.getD k []++[LB d z f3])++(if d.au.getD k dd=true then [Qg f3 u]else [])
theorem px (d:wC) (B:0<=d.rg.ag.req/\d.rg.ag.req<=4) (v:List Vw) (f3:Int) (C:0<=f3) (E:f3<=1073741824) (A:ln v<=4) (hb:∀w∈v,ia w) (k:Nat) (R:List (List Ms)) (z:∀l∈R,ln l<=1000/\∀m∈l,YO m) (hk:k<ln R) (u:List En) (h:∀e∈u,Nj e):(Pg d v f3 k R u).length<=1002/\∀m∈Pg d v f3 k R u,YO m:=by grind [YO,Pg,List.getElem?_eq_getElem,List.getElem_mem,List.length_append,List.length_cons,List.length_nil,List.mem_singleton,dx,Y6]
theorem X9 (u:List En):u.take (min ((u.map kG).length:Int) 16).toNat=u.take 16:=by grind [kG,List.length_map,List.take_of_length_le]
theorem ns (y:Cy) (n0:0<=y.f3) (n1:y.f3<=1073741824) (a k s:Nat) (ha:a<ln y.ds) (hd:dN (y.ds.getD a dd)) (W:0<=(y.ds.getD a dd).rg.ag.req/\(y.ds.getD a dd).rg.ag.req<=4) (hn:ln y.vw<=4) (hb:∀w∈y.vw,ia w) (hk:k<(y.ds.getD a dd).au.length)
  (R:List (List Ms)) (O:∀l∈R,ln l<=1000/\∀m∈l,YO m) (A:k<ln R) (u:List En) (he:∀e∈u,Nj e) (ac:ln u<=100000):
  zN 50 [qY y,jk a k s,zE kY R,zE kG u] [] (zE zW (Pg (y.ds.getD a dd) y.vw y.f3 k R u)) []:=by
 have ht:=px _ W y.vw y.f3 n0 n1 hn hb k R O A u he;have z:=ET (Pg (y.ds.getD a dd) y.vw y.f3 k R u) zB ht.2;have C:=Cp (y.ds.getD a dd) hd W y.vw y.f3 zB hb;have L:=zJ zM y.ds a ha;have B:=zJ kY R k A;have a2:=zJ bA (y.ds.getD a dd).au k hk;have ax:=zA kY R;have ap:=zA kG u;have ar:=zA bA (y.ds.getD a dd).au;have G:=(O _ (yK R k A)).1;have eR:R.getD k dd=R.getD k []:=rfl;unfold qY aY;unfold Pg at z⊢;rw[eR]at B G;generalize LB (y.ds.getD a dd) y.vw y.f3=st,R.getD k []=E at *;have av:=zA zW E;unfold kY zE at B;generalize y.ds.getD a dd=d at *;unfold zM xD at L C;refine eM call50 λF hF=>?_
 refine zS C ?_;refine Xb 25 1001 4 Z Z Z ?_;generalize d.au.getD k dd=b at *;cases b
 .have e1:zE zW ((E++[st])++if false=true then [Qg y.f3 u]else [])= .sl false (E.map zW++[zW st]):=by
   rw[Os zA7,zBn];unfold zE;rw[zAy];rfl
  rw[e1]at z⊢
  (have ga:=C;(repeat' (first|refine uT ?_|apply yW|apply xI|intro hc|(apply zG;first|refine SM ?_)|fail))<;>clear ga)
  (refine vG 51 ?_;refine vU [] [85] Z ?_;(conv=>whnf);(try simp only[zBd,zAt]);first|refine wM (zL (z) Z Z Z Z Z) Z ?_|refine uU (zL (z) Z Z Z Z Z) Z Z Z ?_|refine aF (zL (z) Z Z Z Z Z) Z Z Z ?_)
  (repeat' (first|refine uT ?_|apply yW|apply xI|intro hc|(apply zG;first|refine SM ?_)|fail))
  exact zI
 .have e1:zE zW ((E++[st])++if true=true then [Qg y.f3 u]else [])= .sl false ((E.map zW++[zW st])++[zW (Qg y.f3 u)]):=by
   rw[f5 Z];unfold zE;rw[zAy,zAy];rfl
  rw[e1]at z⊢
  (have ga:=C;(repeat' (first|refine uT ?_|apply yW|apply xI|intro hc|(apply zG;first|refine SM ?_)|fail))<;>clear ga)
  rw[X9];have S:(u.take 16).length<=16:=by rw[zBg];omega
  have V:=zA kG (u.take 16);rw[show zW (Qg y.f3 u)= .agg [iA 18,.sl false [],.sl false ((y.f3::((u.take 16).map fG).flatten).map iA),.sl false []]from Z]at *; generalize u.take 16=M at *;refine vO 57 Z ?_;refine zU (M) [11,57,1001] [1001] [10,11,63,64] [65,10,11,63,64] Z (λi f4 T U=>⟨(65,iA i)::T,(11,.box [iA 18,.s (.slice none 0 0),.ref 57 0 ((y.f3::(f4.map fG).flatten).map iA).length,.s (.slice none 0 0)])::(57,.arr 1 ((y.f3::(f4.map fG).flatten).map iA) true)::U⟩) (Lq ?_ ?_)
  .intro i f4 x post hx hi;have Y:=yJ kG hx hi;have az:=zX hx hi
   have a1:((f4.map fG).flatten).length=3*ln f4:=by
    clear hx hi Y
    induction f4 with
    |nil=>rfl
    |cons e l ih=>rw[zCb,zDp,zAv,ih,zA6];show 3+_=_;omega
   have I:=zA iA (y.f3::(f4.map fG).flatten);rw[zA6]at I;rw[zAy,zEc];rw[show(y.f3::((f4.map fG).flatten++([x].map fG).flatten)).map iA=(y.f3::(f4.map fG).flatten).map iA++[iA x.ag,iA x.ki,iA x.co] by simp[fG]];unfold kG OG at Y;clear hx z C e1;generalize (y.f3::(f4.map fG).flatten).map iA=X at *;refine WW ?_;rfl
  .refine wI [11,1001] [10,11,63,64,65] Z ?_
   (conv=>whnf)
   simp only[zBd,zAt]
   (repeat' (first|refine jX ?_|apply yW|apply xI|intro hc|(apply zG;first|(apply yH;refine ZU 82 Z Z Z ?_;refine vC tok Z Z ?_))|refine SB ?_|fail))
   (refine vG 51 ?_;refine vU [] [85] Z ?_;(conv=>whnf);(try simp only[zBd,zAt]);first|refine wM (zL (z) Z Z Z Z Z) Z ?_|refine uU (zL (z) Z Z Z Z Z) Z Z Z ?_|refine aF (zL (z) Z Z Z Z Z) Z Z Z ?_)
   (repeat' (first|refine uT ?_|apply yW|apply xI|intro hc|(apply zG;first|refine SM ?_)|fail))
   exact zI
structure KJ (y:Cy):Prop where
 v:Qb y.c
 rf:y.rf=false
 n0:0<=y.f3
 dl:y.ds.length=y.c.ags.length
 di:∀d∈y.ds,qB y.c d
 dg:∀a,a<y.ds.length->(y.ds.getD a default).rg.ag=y.c.ags.getD a default
 sc:∀d∈y.ds,KN y.f3 d.rq
 gl:y.sg.length=y.c.js.length
 sl:y.sv.length=y.c.js.length
 tl:y.st.length=y.c.js.length
 wl:y.vw.length=y.c.js.length
 wb:∀w∈y.vw,ia w
 j:∀k,k<y.c.js.length->JI (y.c.js.getD k default) (y.sg.getD k default) (y.sv.getD k default) y.f3
def EU {α:Type} [Inhabited α] {l:List α} {x:α} (h:x∈l):∃i,i<ln l/\l.getD i dd=x:=by
 obtain⟨i,hi,e⟩:=List.mem_iff_getElem.1 h;exact⟨i,hi,by rw[zA0,zBk hi];exact e⟩
theorem KJ.b (h:KJ y):P6 y:=by
 have M:=h.v.a;have hj:=h.v.j;have h1:=h.dl;have h2:=h.gl;have E:=h.sl;have G:=h.tl;have I:=h.wl;refine⟨zB,λd hd=>(h.di d hd).bd,zB,λs u=>?_,zB,λs u=>?_,zB,zB,λw B=>?_⟩
 .obtain⟨i,hi,rfl⟩:=EU u;have J:=h.v.jv _ (yK y.c.js i zB);have C:=(h.j i zB).c;have z:=J.n;have A:=C.n;have L:=C.m;omega
 .obtain⟨i,hi,rfl⟩:=EU u;have J:=h.v.jv _ (yK y.c.js i zB);have z:=J.n;have A:=(h.j i zB).n;omega
 .have:=h.wb w B;have z:=this.n;have A:=this.m;omega
def cX (c:Cf) (z:List Sg) (u:List Int):List Sg:=u.foldl (λs x=>s.set x.toNat (Qr (c.js.getD x.toNat dd) (s.getD x.toNat dd))) z
theorem EV (c:Cf) (z:List Sg) (u:List Int) (x:Int):cX c z (u++[x])=(cX c z u).set x.toNat (Qr (c.js.getD x.toNat dd) ((cX c z u).getD x.toNat dd)):=by grind [cX,Qr]
theorem KL {α:Type} [Inhabited α] (l:List α) (i j:Nat) (x:α) (hj:j<ln l):(l.set i x).getD j dd=if i=j then x else l.getD j dd:=by grind
theorem KM (hv:Qb c) {sv:List Sv} :∀(z:List Int) (u:List Sg),ln u=ln c.js->(∀k,k<ln c.js->JI (c.js.getD k dd) (u.getD k dd) (sv.getD k dd) f3)->(cX c u z).length=ln c.js/\∀k,k<ln c.js->JI (c.js.getD k dd) ((cX c u z).getD k dd) (sv.getD k dd) f3
 | [],u,hl,h=>⟨hl,h⟩
 |x::z,u,hl,h=>by
  have e:cX c u (x::z)=cX c (u.set x.toNat (Qr (c.js.getD x.toNat dd) (u.getD x.toNat dd))) z:=rfl;rw[e];refine KM hv z _ (by rw[zB5];exact hl) λk hk=>?_
  rw[KL _ _ _ _ zB];split
  .rename_i hx;rw[hx];have H:=h k hk;exact⟨G9 (hv.jv _ (yK c.js k hk)) H.c,H.n,H.e,H.g⟩
  .exact h k hk
theorem ms (D:Nat->Sg×Sv) (l:List Sg) (n k:Nat) (h1:k<n) (h2:k<ln l):(YQ D l n).getD k dd=(D k).1:=by grind [YQ,vV]
theorem Zs (D:Nat->Sg×Sv) (l:List Sv) (n k:Nat) (h1:k<n) (h2:k<ln l):(YR D l n).getD k dd=(D k).2:=by grind [YR,vV]
def EE (u:List Jn) (D:Nat->Sg×Sv) (n:Nat):List Vw:=(pi n).map λk=>LK (u.getD k dd) (D k).1 (D k).2
theorem Ys (u:List Jn) (D:Nat->Sg×Sv) (n:Nat):Hg u D n n=(EE u D n).map vR:=by simp_all [Hg,EE,vR]
def eJ (y:Cy) (R:Nat->DR):Nat->Sg×Sv:=ZF y.c (cX y.c y.sg (dD R (ln y.ds))) y.sv y.st (eW (y.f3+1) y.ds R (ln y.ds)) (y.f3+1)
def qC (y:Cy) (R:Nat->DR):Cy:=
 ⟨y.c,false,y.f3+1,eW (y.f3+1) y.ds R (ln y.ds),YQ (eJ y R) (cX y.c y.sg (dD R (ln y.ds))) (ln y.c.js),YR (eJ y R) y.sv (ln y.c.js),XU y.st (ln y.c.js),EE y.c.js (eJ y R) (ln y.c.js)⟩
def Zj (y:Cy) (ins:List In) (R:Nat->DR):Prop:=∀a,a<ln y.ds->w9 y.c (y.f3+1) (YH (y.ds.getD a dd) (y.f3+1)) (DC y.c ins a) (R a)/\zN 115 [wE y.c,zM (YH (y.ds.getD a dd) (y.f3+1)),zE uS (DC y.c ins a),iA (y.f3+1)] [] (Jj (R a)) []/\∀m k,DC y.c ins a=m++pb k dd->zN 56 [wE y.c,zM (YH (y.ds.getD a dd) (y.f3+1)),zE uS m,iA (y.f3+1)] [] (Jj (R a)) []
theorem aC {u:List wC} {a:Nat} (z:a<ln u):(eW f3 u R (ln u)).getD a dd=(R a).d:=by grind [eW]
def fW (f3:Int) (u:List wC) (R:Nat->DR):(eW f3 u R (ln u)).length=ln u:=by simp[eW]
theorem YM {u:List wC} {d:wC} (h:d∈eW f3 u R (ln u)):∃a,a<ln u/\d=(R a).d:=by grind [eW]
def Wb (l:List Rq) (f3:Int):WJ l (KD l f3):=WJ.filter _ _
noncomputable def Ha (y:Cy) (ins:List In) (a:Nat):DR:=ZE y.c (YH (y.ds.getD a dd) (y.f3+1)) (DC y.c ins a) (y.f3+1)
def ox (h:KJ y) (G:y.f3<1000000000) (z:∀i∈ins,Ga i):Zj y ins (Ha y ins):=λa B=>by
 have A:=h.di _ (yK y.ds a B);obtain⟨C,E,_⟩:=E7 A (y.f3+1);have u:=A.au;rw[h.dg a B]at u;have I:=(h.v.av _ (yK y.c.ags a (by have:=h.dl;omega))).e;have L:=h.n0
 exact Kg y.c _ C (DC y.c ins a) (by unfold DC DB;rw[zAr,zB9];show _=(y.ds.getD a dd).au.length;omega) (λi hi=>by
  unfold DC DB at hi;obtain⟨k,_,rfl⟩:=zCa.1 hi;by_cases hk:(qS y.c.ags a).toNat+k<ln ins
  .exact z _ (yK ins _ hk)
  .rw[zA0,zB4 zB]
   exact⟨zA9 _,λx hx=>by cases hx⟩) (y.f3+1) zB zB
theorem EW (h:KJ y) (A:Zj y ins R):KJ (qC y R):=by
 have L:=h.n0;have E:=KM h.v (sv:=y.sv) (f3:=y.f3) (dD R (ln y.ds)) y.sg h.gl h.j
 have I:∀k,k<ln y.c.js->JI (y.c.js.getD k dd) (eJ y R k).1 (eJ y R k).2 (y.f3+1):=λk hk=>by
  have J:=h.v.jv _ (yK y.c.js k hk);have H:=E.2 k hk;exact R9 J zB ⟨H.c,H.n,λe C=>by have:=H.e e C;omega,H.g⟩ _ _ _
 have G:=h.sl;refine⟨h.v,rfl,by show 0<=y.f3+1;omega,(fW ..).trans h.dl,λd hd=>?_,λa z=>?_,λd hd=>?_,?_,?_,?_,?_,λw B=>?_,λk hk=>?_⟩
 .obtain⟨a,z,rfl⟩:=YM hd;exact(A a z).1.i
 .have u:a<ln y.ds:=by rw[<-fW (y.f3+1) y.ds R];exact z
  show((eW (y.f3+1) y.ds R (ln y.ds)).getD a dd).rg.ag=_
  rw[aC u,(A a u).1.ag];exact h.dg a u
 .obtain⟨a,z,rfl⟩:=YM hd;refine(A a z).1.sc ?_;exact KN.of zB ((h.sc _ (yK y.ds a z)).mono zB) (Wb _ _)
 .grind [Zj,qC,YQ,wZ]
 .grind [Zj,qC,YR,wZ]
 .show(XU _ _).length=_
  unfold XU;rw[wZ];exact h.tl
 .grind [Zj,qC,EE]
 .unfold qC EE at B;obtain⟨k,hk,rfl⟩:=zCa.1 B;exact Wx _ (h.v.jv _ (yK y.c.js k (zBi.1 hk))) _ _
 all_goals grind [Zj,qC,YQ,eJ,cX,dD,YR,ms,Zs]
def LJ (y:Cy) (ins:List In) (R:Nat->DR) (n a k:Nat):List Ms:=if(ins.getD ((qS y.c.ags a).toNat+k) dd).opn=true then Pg (y.ds.getD a dd) y.vw y.f3 k (R a).R (XM R n)else []
def OL (T:Nat->Nat->List Ms) (a k:Nat):List (List Ms):=(pi k).map (T a)
def VV (c:Cf) (T:Nat->Nat->List Ms) (n:Nat):List (List Ms):=((pi n).map λa=>OL T a (c.ags.getD a dd).ses.toNat).flatten
def X6 (T:List (List Ms)) (f:Ms):AV:= .agg [zE kY T,zE zW [f]]
def EX (T:Nat->Nat->List Ms) (a k:Nat):OL T a (k+1)=OL T a k++[T a k]:=by simp[OL,zCs]
def VY (c:Cf) (T:Nat->Nat->List Ms) (n:Nat):VV c T (n+1)=VV c T n++OL T n (c.ags.getD n dd).ses.toNat:=by simp[VV,zCs]
theorem YN (u:LL c.ags) (T:Nat->Nat->List Ms):∀n,n<=ln c.ags->((VV c T n).length:Int)=qS c.ags n
 |0,_=>rfl
 |n+1,z=>by
  have A:=YN u T n zB;have:=u.at (i:=n) zB;rw[VY,zAv]
  show _=qS c.ags n+(c.ags.getD n dd).ses
  have:(OL T n (c.ags.getD n dd).ses.toNat).length=(c.ags.getD n dd).ses.toNat:=by simp[OL]
  omega
theorem IQ (z:LL c.ags) (T:Nat->Nat->List Ms):∀n,n<=ln c.ags->∀s,s<(VV c T n).length->∃a k:Nat,a<n/\(k:Int)<(c.ags.getD a dd).ses/\s=(qS c.ags a).toNat+k/\(VV c T n).getD s []=T a k
 |0,_,s,u=>by cases u
 | n+1,C,s,u=>by
  have hl:=YN z T n zB;rw[VY]at u⊢;by_cases h:s<(VV c T n).length
  .obtain⟨a,k,h1,h2,A,B⟩:=IQ z T n zB s h;refine⟨a,k,zB,h2,A,?_⟩;rw[zA0,zBp h,<-zA0];exact B
  .rw[zAv]at u;have E:(OL T n (c.ags.getD n dd).ses.toNat).length=(c.ags.getD n dd).ses.toNat:=by simp[OL]
   refine⟨n,s-(VV c T n).length,zB,zB,zB,?_⟩;rw[zA0,zBq zB];unfold OL;rw[zAz,zCk zB];rfl
theorem qe {n:Nat} {x:Int} (h:x∈dD R n):∃a,a<n/\x∈(R a).ks:=by grind [dD]
theorem IR {n:Nat} {x:En} (h:x∈XM R n):∃a,a<n/\x∈(R a).en:=by grind [XM]
def M5 (T:List (List Ms)) (f:Ms):AV:= .agg [.ref 1051 0 (T.map kY).length,zE zW [f]]
def L5 (T:List (List Ms)):List (Nat×xW):=[(1051,.arr 1 (T.map kY) true)]
theorem je (y:Cy) (h:KJ y) (hn:y.f3<1000000000) (ins:List In) (bu:(ln ins:Int)<=qS y.c.ags (ln y.c.ags)) (R:Nat->DR) (L:Zj y ins R) (a4:∀i,(R i).en.length<=2000) (a6:∀i,(R i).ks.length<=2000):
  zN 12 [qY y,zE uS ins] [] (.tup [qY (qC y R),M5 (VV y.c (LJ (qC y R) ins R (ln y.ds)) (ln y.c.ags)) (QG (y.f3+1) (qC y R).vw)]) (L5 (VV y.c (LJ (qC y R) ins R (ln y.ds)) (ln y.c.ags))):=by
 have hb:=h.b;have n0:=h.n0;have hw:=h.v.ag;have k1:=DJ y hb;have cb:=h.dl;have k2:=Ig y.c hw (y.f3+1) zB zB y.ds h.dl (λi hi=>h.di _ (yK y.ds i hi)) ins bu R a4 a6 (λa E=>(L a E).2.1) (y.sg.map vE) (y.sv.map wW) (y.st.map iA) (y.sg.map vE).length (y.sv.map wW).length (y.st.map iA).length y.vw;have cc:=zA uS ins;have a7:min y.f3 1073741823+1=y.f3+1:=by omega
 have a8:=h.rf;have eC:qY y= .agg [zE wJ y.c.js,zE uI y.c.ags,iA y.c.per,iA y.c.cap,iA y.c.hold,iA y.c.lock,bA false,iA y.f3,zE zM y.ds,zE vE y.sg,zE wW y.sv,zE iA y.st,zE vR y.vw]:=by rw[<-a8];rfl
 unfold IU IV aY at k1;rw[eC,a8]at k1;unfold aY at k2;rw[eC];refine eM call12 λF hF=>?_
 refine zS k1 ?_;rw[a7];refine zS k2 ?_;refine wI [2,3,4,5,6,7,1012,1013,1014] [2,3,4,5,6,7,34,35,36] Z ?_
 (conv=>whnf)
 have a3:(y.ds.map zM).length=((eW (y.f3+1) y.ds R (ln y.ds)).map zM).length:=by rw[zAr,zAr,fW]
 have br:=zA vE y.sg;have b0:=zA wW y.sv;have bz:=zA iA y.st;have a5:=h.gl;have ba:=h.sl;have a9:=h.tl;simp only[zBd];rw[a3,zAt,br,b0,bz,a5,ba,a9];clear k1 k2
 have W:∀x∈dD R (ln y.ds),0<=x/\x<(ln y.c.js:Int):=λx hx=>by
  obtain⟨a,E,hx⟩:=qe hx;exact(L a E).1.ks x hx
 have ce:=UA a6 (ln y.ds);have b4:=h.v.a;have b6:(dD R (ln y.ds)).length<=10000:=by omega
 have cd:=zA wJ y.c.js;have cf:=zA iA (dD R (ln y.ds));have eY:qC y R=⟨y.c,false,y.f3+1,eW (y.f3+1) y.ds R (ln y.ds),YQ (eJ y R) (cX y.c y.sg (dD R (ln y.ds))) (ln y.c.js),YR (eJ y R) y.sv (ln y.c.js),XU y.st (ln y.c.js),EE y.c.js (eJ y R) (ln y.c.js)⟩:=rfl;refine zU ((dD R (ln y.ds))) [1012,2,3,4,5,6,7,1013,1014] [2,3,4,5,6,7,1013,1014] [2,3,4,5,6,7,34,35,86] [36,2,3,4,5,6,7,34,35,86] Z (λi f4 T U=>⟨(36,iA i)::T,(1012,.arr 5 ((cX y.c y.sg f4).map vE) false)::U⟩) (Lq ?_ ?_)
 .intro i f4 x post hx hi;have hy:=yJ iA hx hi;have cg:=zX hx hi;have ac:=W x (xA hx);obtain⟨S,V⟩:=KM h.v (sv:=y.sv) (f3:=y.f3) f4 y.sg h.gl h.j;have J:=h.v.jv _ (yK y.c.js x.toNat zB);have C:=(V x.toNat zB).c;have hJ:=J.n;have hC:=C.n;have hM:=C.m;have kr:=Kl (y.c.js.getD x.toNat dd) J ((cX y.c y.sg f4).getD x.toNat dd) zB zB;have cm:=yE wJ y.c.js x ac.1 ac.2;have cl:=yE vE (cX y.c y.sg f4) x ac.1 zB;have b5:=zA vE (cX y.c y.sg f4);rw[EV,zCe];clear hx W eY L J C V;generalize (cX y.c y.sg f4).getD x.toNat dd=s,y.c.js.getD x.toNat dd=j at *;generalize cX y.c y.sg f4=X at *;generalize X.map vE=Y at *;refine zS kr ?_;rfl
 .obtain⟨S,V⟩:=KM h.v (sv:=y.sv) (f3:=y.f3) (dD R (ln y.ds)) y.sg h.gl h.j
  have u:=Bj y.c h.v (y.f3+1) zB zB (eW (y.f3+1) y.ds R (ln y.ds)) (by rw[fW];omega) (λd hd=>by
    obtain⟨a,E,rfl⟩:=YM hd
    exact(L a E).1.i) (λd hd=>by
    obtain⟨a,E,rfl⟩:=YM hd;refine(L a E).1.sc ?_
    exact KN.of zB ((h.sc _ (yK y.ds a E)).mono zB) (Wb _ _)) (cX y.c y.sg (dD R (ln y.ds))) y.sv y.st y.vw S h.sl h.tl (λk hk=>by
    have H:=V k hk
    exact⟨H.c,H.n,λe he=>by have:=H.e e he;omega,H.g⟩)
  have l1:((cX y.c y.sg (dD R (ln y.ds))).map vE).length=ln y.c.js:=by rw[zAr];exact S
  have l2:(y.sv.map wW).length=ln y.c.js:=by rw[zAr];exact h.sl
  have l3:(y.st.map iA).length=ln y.c.js:=by rw[zAr];exact h.tl
  have l4:((YQ (eJ y R) (cX y.c y.sg (dD R (ln y.ds))) (ln y.c.js)).map vE).length=ln y.c.js:=by unfold YQ;rw[zAr,wZ];exact S
  have l5:((YR (eJ y R) y.sv (ln y.c.js)).map wW).length=ln y.c.js:=by unfold YR;rw[zAr,wZ];exact h.sl
  have l6:((XU y.st (ln y.c.js)).map iA).length=ln y.c.js:=by unfold XU;rw[zAr,wZ];exact h.tl
  have l7:((EE y.c.js (eJ y R) (ln y.c.js)).map vR).length=ln y.c.js:=by simp[EE]
  have bl:=zA uI y.c.ags;unfold u9 at u;rw[show ZF y.c (cX y.c y.sg (dD R (ln y.ds))) y.sv y.st (eW (y.f3+1) y.ds R (ln y.ds)) (y.f3+1)=eJ y R from Z,Ys,l1,l2,l3,l4,l5,l6]at u;have eT:qY (qC y R)= .agg [zE wJ y.c.js,zE uI y.c.ags,iA y.c.per,iA y.c.cap,iA y.c.hold,iA y.c.lock,bA false,iA (y.f3+1),zE zM (qC y R).ds,zE vE (qC y R).sg,zE wW (qC y R).sv,zE iA (qC y R).st,zE vR (qC y R).vw]:=rfl;have d1:eW (y.f3+1) y.ds R (ln y.ds)=(qC y R).ds:=rfl;have d2:YQ (eJ y R) (cX y.c y.sg (dD R (ln y.ds))) (ln y.c.js)=(qC y R).sg:=rfl;have d3:YR (eJ y R) y.sv (ln y.c.js)=(qC y R).sv:=rfl;have d4:XU y.st (ln y.c.js)=(qC y R).st:=rfl;have d5:EE y.c.js (eJ y R) (ln y.c.js)=(qC y R).vw:=rfl;rw[d2]at u l4;rw[d3]at u l5;rw[d4]at u l6;rw[d5]at u l7;rw[d1]at u⊢;refine zS u ?_;refine wI [2,3,4,5,6,7,11] [2,3,4,5,6,7,11,78,79] Z ?_
  (conv=>whnf)
  simp only[zBd];rw[zA1 (l:=(qC y R).sg.map vE) (zCx l4),zA1 (l:=(qC y R).sv.map wW) (zCx l5),zA1 (l:=(qC y R).st.map iA) (zCx l6),zA1 (l:=(qC y R).vw.map vR) (zCx l7),bl];have M:=EW h L;have zc:(qC y R).c=y.c:=rfl;have zn:(qC y R).f3=y.f3+1:=rfl;have zd:(qC y R).ds.length=ln y.ds:=fW ..;have zR:∀a,a<ln y.ds->(qC y R).ds.getD a dd=(R a).d:=λa E=>aC E
  have cn:=zA zM (qC y R).ds;have eA:∀T f,M5 T f= .agg [.ref 1051 0 (T.map kY).length,zE zW [f]]:=λ_ _=>rfl
  have eH:∀T,L5 T=[(1051,.arr 1 (T.map kY) true)]:=λ_=>rfl
  rw[eT,eA,eH];clear d1 d2 d3 d4 d5 u l1 l2 l3 l4 l5 l6 l7 S V W eY a3;refine gI 11 0 1051 1 Z Z Z Z Z ?_
  have ax:∀a k,LJ (qC y R) ins R (ln y.ds) a k=if(ins.getD ((qS y.c.ags a).toNat+k) dd).opn=true then Pg ((qC y R).ds.getD a dd) (qC y R).vw (qC y R).f3 k (R a).R (XM R (ln y.ds))else []:=λ_ _=>rfl
  generalize LJ (qC y R) ins R (ln y.ds)=A at *;generalize qC y R=z at *;refine zO (ln y.c.ags) [11,1051,2,3,4,5,6,7] [2,3,4,5,6,7] [2,3,4,5,6,7,11,78,86] [79,2,3,4,5,6,7,11,78,86] Z (λi T U=>⟨(79,iA i)::T,(11,.box [.ref 1051 0 ((VV y.c A i).map kY).length,.s (.slice none 0 0)])::(1051,.arr 1 ((VV y.c A i).map kY) true)::U⟩) (Lq ?_ ?_)
  .intro i hi;have B:i<ln y.ds:=by omega
   have ks:=pe y.c i;have ht:=gk y.c hw i hi;obtain⟨I,a2⟩:∃I:Nat,qS y.c.ags i=(I:Int):=⟨(qS y.c.ags i).toNat,by have:=qD hw i zB;omega⟩;obtain⟨N,hN⟩:∃N:Nat,(y.c.ags.getD i dd).ses=(N:Int):=⟨(y.c.ags.getD i dd).ses.toNat,by have:=hw.at (i:=i) zB;omega⟩;have b9:=hw.at (i:=i) zB;have hL:IZ y.c i=(pi N).map λk=>[jk i k (I+k)]:=by unfold IZ;rw[a2,hN];rfl
   have cj:=YN hw A i zB;have ci:=qD hw i zB;rw[VY,show(y.c.ags.getD i dd).ses.toNat=N by omega]
   have ck:(List.map (λk=>Yx (R k)) (pi (ln y.ds)))[i]? =some (.sl false ((R i).R.map kY)):=by
    rw[zAz,zCk B];rfl
   have G:=(L i B).1;have hI:=M.di _ (yK z.ds i zB);have b3:=zR i B
   have ca:(R i).d.au.length=N:=by
    have:=G.i.au;rw[G.ag]at this;have e9:=h.dg i B;rw[show(YH (y.ds.getD i dd) (y.f3+1)).rg.ag=(y.ds.getD i dd).rg.ag from Z,e9]at this;omega
   have a1:(YH (y.ds.getD i dd) (y.f3+1)).au.length=N:=by
    have:=(h.di _ (yK y.ds i B)).au;rw[h.dg i B]at this
    show(y.ds.getD i dd).au.length=N
    omega
   have bk:=G.rn;rw[a1]at bk;have av:=G.rv
   have ar:∀e∈XM R (ln y.ds),Nj e:=λe he=>by
    obtain⟨a,E,he⟩:=IR he;exact(L a E).1.en e he
   have b7:=VZ a4 (ln y.ds);have bx:=hI.a.q;have kt:=λk (hk:k<N)=>ns z M.n0 zB i k (I+k) zB hI.bd bx (by have:=M.wl;have:=M.v.j;omega) M.wb (by rw[b3];omega) (R i).R av zB (XM R (ln y.ds)) ar zB
   have az:∀k,k<N->A i k=if(ins.getD (I+k) dd).opn=true then Pg (z.ds.getD i dd) z.vw z.f3 k (R i).R (XM R (ln y.ds))else []:=λk hk=>by
    rw[ax i k,a2];rfl
   clear ax ar av L G hI zR;have eZ:qY z= .agg [zE wJ y.c.js,zE uI y.c.ags,iA y.c.per,iA y.c.cap,iA y.c.hold,iA y.c.lock,bA false,iA (y.f3+1),zE zM z.ds,zE vE z.sg,zE wW z.sv,zE iA z.st,zE vR z.vw]:=eT;rw[eZ]at kt;rw[show zE kY (R i).R= .sl false ((R i).R.map kY)from Z]at kt;generalize (R i).R.map kY=Rm at *;rw[zAy];have b2:=zA kY (VV y.c A i);generalize (VV y.c A i).map kY=X at *;unfold Cg at ks ht;unfold wE at ks;refine zS ks ?_
   refine qO hF ht Z [2,3,4,5,6,7,11,12,1051] [2,3,4,5,6,7,11,12,78,79] Z Z Z Z Z Z Z Z Z (λk ys h=>?_) (λk=>[(2,.box [zE wJ y.c.js,zE uI y.c.ags,iA y.c.per,iA y.c.cap,iA y.c.hold,iA y.c.lock,bA false,iA (y.f3+1),zE zM z.ds,zE vE z.sg,zE wW z.sv,zE iA z.st,zE vR z.vw]),(3,.box [zE uS ins]),(4,.box [.s (.slice none 0 0),.s (.slice none 0 0),iA 0,iA 0,iA 0,iA 0,bA false,iA 0,.s (.slice none 0 0),.s (.slice none 0 0),.s (.slice none 0 0),.s (.slice none 0 0),.s (.slice none 0 0)]),(5,.box [.s (.slice none 0 0),.s (.slice none 0 0)]),(6,.box [.sl false (List.map (λk=>Yx (R k)) (pi (ln y.ds)))]),(7,.box [zE kG (XM R (ln y.ds))]),(11,.box [.ref 1051 0 (X++(OL A i k).map kY).length,.s (.slice none 0 0)]),(12,.box [iA i]),(1051,.arr 1 (X++(OL A i k).map kY) true)]) (λ_=>True)
    (T:=[(2,.ptr 2 0 0),(3,.ptr 3 0 0),(4,.ptr 4 0 0),(5,.ptr 5 0 0),(6,.ptr 6 0 0),(7,.ptr 7 0 0),(11,.ptr 11 0 0),(12,.ptr 12 0 0),(78,iA (ln y.c.ags)),(79,iA i)]) (by rw[show(OL A i 0).map kY=[]from Z,zBn];rfl) trivial (λk ys q ap bf F1 h1 h2=>?_) (λbf=>?_)
   .rw[hL,zAz,zBa]at h;obtain⟨x,_,rfl⟩:=h;rfl
   .have hk:k<N:=by
     have:=(zBj.1 ap).1;rw[hL,zAr,zB9]at this;exact this
    rw[hL,zAz,zCk hk]at ap;obtain rfl:=zD2 ap;have ch:((OL A i k).map kY).length=k:=by unfold OL;rw[zAr,zAr,zB9]
    have kt:=kt k hk;rw[EX,zAy,show [A i k].map kY=[zE zW (A i k)]from Z,az k hk,<-zBh];generalize (OL A i k).map kY=O,Pg (z.ds.getD i dd) z.vw z.f3 k (R i).R (XM R (ln y.ds))=tl at *;by_cases hq:I+k<ln ins
    .have bb:=zJ uS ins (I+k) hq;generalize ins.getD (I+k) dd=x at *;unfold uS at bb;obtain⟨xo,xs⟩:=x;refine WW ?_;refine⟨rfl,λF2 S V=>?_⟩;dsimp only at bb⊢;cases xo
     .rw[Os zA7]
      (repeat' (first|refine jX ?_|apply yW|apply xI|intro hc|(apply zG;first|(apply yH;refine ZU 117 Z Z Z ?_;refine vC tok Z Z ?_))|refine SB ?_|fail))
      exact⟨rfl,trivial⟩
     .rw[f5 Z]
      (have ga:=kt;(repeat' (first|refine jX ?_|apply yW|apply xI|intro hc|(apply zG;first|(apply yH;refine ZU 117 Z Z Z ?_;refine vC tok Z Z ?_))|refine SB ?_|fail))<;>clear ga)
      exact⟨rfl,trivial⟩
    .rw[show(ins.getD (I+k) dd).opn=false by rw[zA0,zB4 zB];rfl,Os zA7];refine WW ?_;refine⟨rfl,λF2 S V=>?_⟩
     (repeat' (first|refine jX ?_|apply yW|apply xI|intro hc|(apply zG;first|(apply yH;refine ZU 117 Z Z Z ?_;refine vC tok Z Z ?_))|refine SB ?_|fail))
     exact⟨rfl,trivial⟩
   .rw[show(IZ y.c i).length=N by rw[hL,zAr,zB9]]
    show uD _ _ _ _ ⟨_,_⟩ _
    refine WW ?_;rfl
  .have b1:ln z.vw<=4:=by have:=M.wl;have:=M.v.j;omega
   have kf:=yz (y.f3+1) z.vw zB M.wb;have kv:=ET [QG (y.f3+1) z.vw] zV (λm hm=>by rw[zBl.1 hm];exact zz z.vw (y.f3+1) zB zB b1 M.wb);rw[show zE zW [QG (y.f3+1) z.vw]= .sl false [zW (QG (y.f3+1) z.vw)]from Z]at *; generalize QG (y.f3+1) z.vw=fm at *;have b2:=zA kY (VV y.c A (ln y.c.ags));generalize (VV y.c A (ln y.c.ags)).map kY=X at *;refine zS kf ?_
   (refine vG 51 ?_;refine vU [2,4,5,11,1051] [2,4,5,11,127] Z ?_;(conv=>whnf);(try simp only[zBd,zAt]);first|refine wM (zL (kv) Z Z Z Z Z) Z ?_|refine uU (zL (kv) Z Z Z Z Z) Z Z Z ?_|refine aF (zL (kv) Z Z Z Z Z) Z Z Z ?_)
   refine WW ?_;exact zH [1051] Z Z Z Z
def xz {u:Cy} {T:List (List Ms)} {f:Ms} (k:zN 12 [qY y,zE uS ins] [] (.tup [qY u,M5 T f]) (L5 T)):zN 12 [qY y,zE uS ins] [] (.tup [qY u,X6 T f]) []:=by
 refine k.frz [] ?_ Z Z
 show AV.tup [_,AV.agg [AV.sl false (py (T.map kY).length (T.map kY)),_]]=_
 rw[zAt];rfl
def wz (h:KJ y) (hn:y.f3<1000000000) (E:Zj y ins R):YO (QG (y.f3+1) (qC y R).vw)/\∀x∈VV y.c (LJ (qC y R) ins R (ln y.ds)) (ln y.c.ags),ln x<=1002/\∀m∈x,YO m:=by
 have B:=EW h E;have n0:=h.n0;have hw:=h.v.ag;have W:=h.dl;have A:(qC y R).vw.length<=4:=by have:=B.wl;have:=B.v.j;omega
 have C:∀e∈XM R (ln y.ds),Nj e:=λe G=>by
  obtain⟨a,V,G⟩:=IR G;exact(E a V).1.en e G
 refine⟨zz _ _ zB zB A B.wb,λx hx=>?_⟩;obtain⟨s,M,e⟩:=List.mem_iff_getElem.1 hx;obtain⟨a,k,h1,h2,h3,S⟩:=IQ hw (LJ (qC y R) ins R (ln y.ds)) _ (zAw _) s M;have O:x=LJ (qC y R) ins R (ln y.ds) a k:=by rw[<-S,zA0,zBk M,<-e];rfl
 rw[O];unfold LJ;split
 .have u:a<ln y.ds:=by omega
  have z:=(E a u).1
  have L:((YH (y.ds.getD a dd) (y.f3+1)).au.length:Int)=(y.c.ags.getD a dd).ses:=by
   have:=(h.di _ (yK y.ds a u)).au;rw[h.dg a u]at this;exact this
  have U:=z.rn;have hq:=z.i.a.q;have I:(qC y R).ds.getD a dd=(R a).d:=aC u;rw[I];exact px _ hq _ _ (by show 0<=y.f3+1;omega) (by show y.f3+1<=_;omega) A B.wb k (R a).R z.rv zB _ C
 .exact⟨zA9 _,λm Y=>by cases Y⟩
structure W9 (y y':Cy) (ins:List In) (T:List (List Ms)):Prop where
 i:KJ y'
 c:y'.c=y.c
 n:y'.f3=y.f3+1
 l:T.length=ins.length
 v:∀x∈T,x.length<=1002/\∀m∈x,YO m
 f:YO (QG (y.f3+1) y'.vw)
 tk:Zj y ins (Ha y ins)/\y'=qC y (Ha y ins)/\T=VV y.c (LJ y' ins (Ha y ins) y.ds.length) y.c.ags.length
def Yj (y:Cy) (h:KJ y) (z:y.f3<1000000000) (ins:List In) (G:(ln ins:Int)=qS y.c.ags (ln y.c.ags)) (A:∀i∈ins,Ga i):
  ∃(B:Cy) (T:List (List Ms)),W9 y B ins T/\zN 12 [qY y,zE uS ins] [] (.tup [qY B,M5 T (QG (y.f3+1) B.vw)]) (L5 T):=by
 have u:=ox h z A;have k:=je y h z ins zB (Ha y ins) u (λi=>(bF ..).1) (λi=>(bF ..).2);obtain⟨R,C⟩:∃R,R=Ha y ins:=⟨_,rfl⟩;rw[<-C]at u k;have E:=EW h u;have hl:=YN h.v.ag (LJ (qC y R) ins R (ln y.ds)) _ (zAw _);exact⟨qC y R,VV y.c (LJ (qC y R) ins R (ln y.ds)) (ln y.c.ags),⟨E,rfl,rfl,zB,(wz h z u).2,(wz h z u).1,C▸⟨u,rfl,rfl⟩⟩,k⟩
def W6:AV:= .agg [.s (.slice none 0 0),.s (.slice none 0 0),iA 0,iA 0,iA 0,iA 0]
def rx (n:Int):AV:= .agg [.sl false [],.sl false [],iA 0,iA 0,iA 0,iA 0,bA true,iA n,.sl false [],.sl false [],.sl false [],.sl false [],.sl false []]
def Xs:AV:= .sl false [.agg [iA 22,.s (.slice none 0 0),.sl false [iA 16],.s (.slice none 0 0)]]
def Og:zN 148 [iA 0,iA 1,iA 4] [] (bA false) []:=by
 refine eM call148 λF hF=>?_
 (repeat' (first|refine aM ?_|refine yW (λhc=>?_) λhc=>?_|fail))
 exact zI
def Ws:zN 78 [W6] [] (bA false) []:=by
 have w:=Og;unfold W6;refine eM call78 λF hF=>?_
 exact ng w
def Vs:zN 33 [W6] [] (rx 0) []:=by
 have w:=Ws;unfold W6 at *;unfold rx;refine eM call33 λF hF=>?_
 refine zS w ?_;refine zO (0) [2,3] [2,3] [2,3,19,20] [21,2,3,19,20] Z (λi T U=>⟨(21,iA i)::T,U⟩) (Lq ?_ ?_)
 .intro i hi;cases hi
 .exact ly
def V6:zN 44 [rx 0] [] (rx 0) []:=
 Aj ⟨⟨[],[],0,0,0,0⟩,true,0,[],[],[],[],[]⟩ ⟨by simp,λ_ h=>(by cases h),by simp,λ_ h=>(by cases h),by simp,λ_ h=>(by cases h),by simp,by simp,λ_ h=>(by cases h)⟩
def Xj:zN 113 [] [] Xs []:=by
 unfold Xs;refine eM call113 λF hF=>?_
 exact nl
def U6:AV:= .sl false [.agg [bA true,.s (.slice none 0 0)]]
def Ng:zN 45 [U6] [] (.agg [.sl false [Xs],Xs]) []:=by
 have w:=Xj;unfold U6 Xs at *;obtain⟨z,u,hl,A⟩:∃l:List AV,l=[.agg [bA true,.s (.slice none 0 0)]]/\l.length=1/\l[(0:Nat)]? =some (.agg [bA true,.s (.slice none 0 0)]):=⟨_,rfl,rfl,rfl⟩;rw[<-u];refine eM call45 λF hF=>?_
 refine zS w ?_;rw[hl];refine zO (1) [7,2,3] [2,3] [0,2,3,11] [12,0,2,3,11] Z (λi T U=>⟨(12,iA i)::T,(7,.arr 1 (if i=0 then [.s (.slice none 0 0)]else [.sl false [.agg [iA 22,.s (.slice none 0 0),.sl false [iA 16],.s (.slice none 0 0)]]]) false)::U⟩) (Lq ?_ ?_)
 .intro i hi;obtain rfl:i=0:=by omega
  refine zS w ?_;rfl
 .exact ly
def Wj:zN 12 [rx 0,U6] [] (.tup [rx 1,.agg [.sl false [Xs],Xs]]) []:=by
 have w:=Ng;have k:=V6;unfold U6 Xs rx at *;refine eM call12 λF hF=>?_
 refine zS k ?_;rw[show min (0:Int) 1073741823+1=1 from Z];exact ng w
def Mg:zN 18 [] [] (bA true) []:=by
 have u:=Vs;have z:=Wj;unfold W6 at u;unfold U6 Xs rx at *;refine eM call18 λF hF=>?_
 exact nm (xV u z)
def dT (n a b:Int) (h:a<=n/\n<=b):zN 154 [iA n,iA a,iA b] [] (bA true) []:=by
 have k:=gK n a b
 rwa [show uE n a b=true from zAu h]at k
def T6 (j:Jn) (J:JV j):zN 210 [zE iA j.cf] [] (bA true) []:=by
 have hl:=zA iA j.cf;have M:=J.n;have hc:=J.c;have I:=u7 (n:=ln j.cf) zB;refine eM call210 λF hF=>?_
 refine WW ?_;refine zO (ln j.cf) [] [] [0,14,15] [16,0,14,15] Z (λi T U=>⟨(16,iA i)::T,U⟩) (Lq ?_ ?_)
 .intro u L;have O:=zJ iA j.cf u L;have z:=J.row u zB;have G:(2:Int) ^ (ln j.ph)=p2 (ln j.cf:Int):=by rw[hc];unfold p2;rw[zBf]
  rw[G,<-hl]at z;have E:=jB j.cf zB u u;rw[J.ir u zB]at E;have A:=λv:Nat=>jB j.cf zB u v
  have B:=λv:Nat=>jB j.cf zB v u
  have C:=λv (hv:v<ln j.cf)=>J.sy u v zB zB
  rw[<-hl]at I;generalize j.cf.getD u dd=x at *;refine zS E ?_;refine zO (ln j.cf) [] [] [0,3,14,15,16,38] [39,0,3,14,15,16,38] Z (λi T U=>⟨(39,iA i)::T,U⟩) (Lq ?_ ?_)
  .intro v hv;have A:=A v;have B:=B v;rw[C v hv]at A;clear C;generalize kK j.cf v u=b at *;cases b
   all_goals
    (refine yG (xV A B) ?_)
    rfl
  ·(refine WW ?_)
   rfl
 .exact ly
def Vj (j:Jn) (J:JV j) (p:Nat) (z:p<ln j.ph):zN 211 [xN (yF j p)] [] (bA true) []:=by
 have W:=J.rg p z;have V:=J.gp p z;obtain⟨Y,t2,t3,t4,t5,t6,t7,t8,t9,A,B,ac,u⟩:=J.ti p z;generalize yF j p=t at *;have C:=dT t.ring 0 1 W;have E:=dT t.group 0 3 V;have G:=dT t.ming 1 60 ⟨Y,zB⟩;have I:=dT t.maxg t.ming 60 ⟨zB,t3⟩;have L:=dT t.yel 1 60 ⟨t4,t5⟩;have M:=dT t.red 0 60 ⟨t6,t7⟩;have O:=dT t.walk 0 60 ⟨t8,t9⟩;have S:=dT t.clear 0 60 ⟨A,B⟩;by_cases U:t.walk=0
 .have h1:=u.1 U;clear u;refine eM call211 λF hF=>?_
  exact mx (zy C E G I L M O S)
 .have h1:¬t.clear=0:=λh=>U (u.2 h)
  clear u;refine eM call211 λF hF=>?_
  exact mx (zy C E G I L M O S)
def EY (j:Jn) (p i:Nat):Bool:=(yF j p).group==0||(pi i).any λq=>(yF j q).group==(yF j p).group-1
def Uj (j:Jn) (p i:Nat):EY j p (i+1)=(EY j p i||(yF j i).group==(yF j p).group-1):=by
 unfold EY;rw[zCs,List.any_append,zGd,List.any_nil,zFv,Bool.or_assoc]
def Us (j:Jn) (J:JV j) (p:Nat) (u:p<ln j.ph):EY j p (ln j.ph)=true:=by
 unfold EY;have B:=J.gp p u;by_cases z:(yF j p).group=0
 .rw[z];rfl
 .obtain⟨q,A,e⟩:=J.lo p u ((yF j p).group-1) zB zB;rw[zC3];exact .inr (zCi.2 ⟨q,zBi.2 A,by rw[zB8];exact e⟩)
theorem EZ (j:Jn) (J:JV j):zN 155 [wJ j] [] (bA true) []:=by
 have hl:=zA xN j.ph;have ag:=zA iA j.cf;have hn:=J.n;have hc:=J.c;have c1:=T6 j J;have c2:=dT j.st 0 60 J.st;refine eM call155 λF hF=>?_
 refine yG (xV c1 c2) ?_;refine zO (ln j.ph) [1] [1] [1,42,43] [44,1,42,43] Z (λi T U=>⟨(44,iA i)::T,U⟩) (Lq ?_ ?_)
 .intro u G;have Y:=zJ xN j.ph u G
  change (j.ph.map xN)[u]? =some (xN (yF j u))at Y
  have cp:=Vj j J u G;generalize yF j u=t at *;refine zS cp ?_;rfl
 .clear c1 c2;refine WW ?_;refine zO (ln j.ph) [1] [1] [1,53,54] [55,1,53,54] Z (λi T U=>⟨(55,iA i)::T,U⟩) (Lq ?_ ?_)
  .intro u G;have Y:=zJ xN j.ph u G
   change (j.ph.map xN)[u]? =some (xN (yF j u))at Y
   have C:=Us j J u G;have hg:=J.gp u G;have A:EY j u 0=((yF j u).group==0):=by unfold EY;simp
   have E:=Uj j u;refine WW ?_;refine zO (ln j.ph) [1,7] [1,7] [1,6,7,53,54,55,61,62] [63,1,6,7,53,54,55,61,62] Z (λi T U=>⟨(63,iA i)::T,U⟩) (Lq ?_ ?_)
   .intro v hv;have B:=zJ xN j.ph v hv
    change (j.ph.map xN)[v]? =some (xN (yF j v))at B
    have M:=jB j.cf zB u v;have z:=J.ap u v G hv;clear E A C;by_cases I:u=v
    .have W:(u:Int)=v:=by omega
     clear z;generalize yF j u=a,yF j v=b at *;refine WW ?_;rfl
    have W:¬(u:Int)=v:=by omega
    by_cases h1:(yF j u).ring=(yF j v).ring
    .rw[z I (.inl h1)]at M;clear z;generalize yF j u=a,yF j v=b at *;refine zS M ?_;rfl
    by_cases h2:(yF j u).group=(yF j v).group
    .clear z;generalize yF j u=a,yF j v=b at *;refine WW ?_;rfl
    .rw[z I (.inr h2)]at M;clear z;generalize yF j u=a,yF j v=b at *;refine zS M ?_;rfl
   .have L:∀b:Bool,((yF j u).group==0)=b->b=EY j u 0:=λb h=>by rw[A,h]
    by_cases O:(yF j u).group=0
    .have S:EY j u 0=true:=by rw[A,zB8];exact O
     clear L;refine WW ?_;refine zO (ln j.ph) [1,7] [1,7] [1,7,53,54,55,98,99] [10,100,1,7,53,54,55,98,99] Z (λi T U=>⟨(10,bA (EY j u i))::(100,iA i)::T,U⟩) ?_;(conv=>whnf);refine⟨by(rw[S];rfl),?_,?_⟩
     .intro v hv;have B:=zJ xN j.ph v hv
      change (j.ph.map xN)[v]? =some (xN (yF j v))at B
      have e9:EY j u v=true:=by unfold EY;rw[O];rfl
      have V:EY j u (v+1)=true:=by unfold EY;rw[O];rfl
      rw[e9,V];generalize yF j u=a,yF j v=b at *;refine WW ?_;rfl
     .rw[C];refine WW ?_;rfl
    .have S:EY j u 0=false:=by rw[A,zBm];exact O
     clear L;refine WW ?_;refine zO (ln j.ph) [1,7] [1,7] [1,7,53,54,55,98,99] [10,100,1,7,53,54,55,98,99] Z (λi T U=>⟨(10,bA (EY j u i))::(100,iA i)::T,U⟩) ?_;(conv=>whnf);refine⟨by(rw[S];rfl),?_,?_⟩
     .intro v hv;have B:=zJ xN j.ph v hv
      change (j.ph.map xN)[v]? =some (xN (yF j v))at B
      have V:=E v;rw[V];have ac:=J.gp v hv;generalize EY j u v=bb at *;clear C E A;generalize yF j u=a,yF j v=b at *;cases bb
      .by_cases hq:b.group=a.group-1
       .rw[show(false||b.group==a.group-1)=true by rw[zC5,zB8];exact hq];refine WW ?_;rfl
       .rw[show(false||b.group==a.group-1)=false by rw[zC5,zBm];exact hq];refine WW ?_;rfl
      .rw[zDe];refine WW ?_;rfl
     .rw[C];refine WW ?_;rfl
  .exact ly
def vz (c:Cf) (h:Qb c):zN 84 [wE c] [] (bA true) []:=by
 have hj:=h.j;have M:=h.a;have A:=zA wJ c.js;have z:=zA uI c.ags;have C:=dT ((c.js.map wJ).length:Int) 1 4 zB;have w2:=dT ((c.ags.map uI).length:Int) 1 4 zB;have E:=dT c.per 1 600 h.p;have G:=dT c.cap 0 100 h.cp;have I:=dT c.hold 1 60 h.h;have L:=dT c.lock 0 600 h.l;unfold wE zE;refine eM call84 λF hF=>?_
 refine yG (xV C w2) ?_;refine zO ((c.js.map wJ).length) [1] [1] [1,20,21] [22,1,20,21] Z (λi T U=>⟨(22,iA i)::T,U⟩) (Lq ?_ ?_)
 .intro i hi;have B:=zJ wJ c.js i zB;have u:=EZ _ (h.jv _ (yK c.js i zB));generalize c.js.getD i dd=j at *;refine zS u ?_;rfl
 ·(refine WW ?_)
  refine zO ((c.ags.map uI).length) [1] [1] [1,31,32] [33,1,31,32] Z (λi T U=>⟨(33,iA i)::T,U⟩) (Lq ?_ ?_)
  .intro i hi;have B:=zJ uI c.ags i zB;have u:=ID (c.ags.getD i dd);rw[(bv _).2 (h.av _ (yK c.ags i zB))]at u;generalize c.ags.getD i dd=a at *;refine zS u ?_;rfl
  .exact mx (cD E G I L)
def Tj (p:Ph) (h:Fx p) (l:Li) (B: -1000000000000<=l.tk/\l.tk<=1000000000000) (z: -1000<=Be p/\Be p<=1000) (C: -1000<=p.yel/\p.yel<=1000) (A: -1000<=p.red/\p.red<=1000):zN 77 [xN p,xE l] [] (iA (Vr p l)) []:=by
 have c:=Ee p h;unfold Vr;generalize Be p=n at *;by_cases h1:l.lamp=1
 .rw[f5 h1,Int.max_comm];refine eM call77 λF hF=>?_
  exact ng c
 rw[Os h1];by_cases h2:l.lamp=2
 .rw[f5 h2];refine eM call77 λF hF=>?_
  exact ly
 rw[Os h2];by_cases u:l.lamp=3
 .rw[f5 u];refine eM call77 λF hF=>?_
  exact ly
 .rw[Os u];refine eM call77 λF hF=>?_
  exact ly
def Sj (s:Sg) (i:Nat):List Int:=(pi i).map λp=>Xx (xS s.c p)
def Rj (j:Jn) (s:Sg) (i:Nat):List Int:=(pi i).map λp=>Vr (yF j p) (xS s.c p)
def fe (f:Nat->Int) (n:Nat):(pi n).map f=aX (λp _=>f p) (pb n 0) n:=by
 apply zB0;intro k;rw[vV,zCq,zAz];by_cases hk:k<n
 .rw[f5 hk,f5 hk,zCk hk];rfl
 .rw[Os hk,zB4 qA];rfl
theorem Zx (j:Jn) (J:JV j) (s:Sg) (C:CV j s.c) (v:Sv):zN 30 [wJ j,vE s,wW v] [] (vR (LK j s v)) []:=by
 have k:=zw j J.n.2;have hl:=zA xN j.ph;have W:=J.n;have z:(s.c.li.map xE).length=ln j.ph:=by rw[zAr];exact C.n
 unfold LK
 cases u:s.lat with
 |true=>
  rw[f5 Z];unfold vE wW;rw[u];unfold vR at *;refine eM call30 λF hF=>?_
  exact ng k
 | false=>
  rw[Os zA7];have e1:KO s (ln j.ph) (ln j.ph)=Sj s (ln j.ph):=(fe _ _).symm;have I:EF j s (ln j.ph) (ln j.ph)=Rj j s (ln j.ph):=(fe _ _).symm;rw[e1,I];have O:∀i,(Sj s (i+1)).map iA=(Sj s i).map iA++[iA (Xx (xS s.c i))]:=λi=>by simp[Sj,zCs]
  have S:∀i,(Rj j s (i+1)).map iA=(Rj j s i).map iA++[iA (Vr (yF j i) (xS s.c i))]:=λi=>by simp[Rj,zCs]
  have L:∀i,((Sj s i).map iA).length=i:=λi=>by simp[Sj]
  have M:∀i,((Rj j s i).map iA).length=i:=λi=>by simp[Rj]
  unfold wJ vE wW zE at *;rw[u];refine eM call30 λF hF=>?_
  refine WW ?_;refine zQ 8 1021 1 Z Z Z ?_;refine zQ 9 1022 1 Z Z Z ?_;refine zO ((s.c.li.map xE).length) [1021,1022,3,6,7] [3,6,7] [3,6,7,24,25] [8,9,26,3,6,7,24,25] Z (λi T U=>⟨(8,.ref 1021 0 ((Sj s i).map iA).length)::(9,.ref 1022 0 ((Rj j s i).map iA).length)::(26,iA i)::T,(1021,.arr 1 ((Sj s i).map iA) true)::(1022,.arr 1 ((Rj j s i).map iA) true)::U⟩) (Lq ?_ ?_)
  .intro i hi;have hi':i<ln j.ph:=by omega
   have hy:(j.ph.map xN)[i]? =some (xN (yF j i)):=zJ xN j.ph i hi';have hz:(s.c.li.map xE)[i]? =some (xE (xS s.c i)):=zJ xE s.c.li i (by have:=C.n;omega);have Y:=J.ti i hi';have hv:=C.k i hi';have x1:=L i;have x2:=M i
   have E: -1000000000000<=(xS s.c i).tk/\(xS s.c i).tk<=1000000000000:=by
    unfold Ba at hv
    repeat' split at hv
    all_goals (first|(rw[zAx]at hv;omega)|cases hv)
   have G:=Tj (yF j i) ⟨zB,zB,zB,zB⟩ (xS s.c i) E (by unfold Be;omega) zB zB;rw[O,S];clear O S L M k e1 I;generalize Vr (yF j i) (xS s.c i)=V,(Sj s i).map iA=A,(Rj j s i).map iA=B at *;generalize yF j i=p at *;unfold Xx;generalize xS s.c i=l at *;by_cases h1:l.lamp=1
   .rw[f5 (.inl h1)];refine zS G ?_;rfl
   by_cases h2:l.lamp=2
   .rw[f5 (.inr h2)];refine zS G ?_;rfl
   .rw[Os (λh=>h.elim h1 h2)];refine zS G ?_;rfl
  ·(refine WW ?_)
   refine zH [] Z Z ?_ Z
   show AV.agg [bA false,bA (v.ph != -1),.sl false (py ((Sj s (s.c.li.map xE).length).map iA).length (p5 0 ((Sj s (s.c.li.map xE).length).map iA))),.sl false (py ((Rj j s (s.c.li.map xE).length).map iA).length (p5 0 ((Rj j s (s.c.li.map xE).length).map iA)))]=_
   rw[zBd,zAt,zBd,zAt,z];rfl
theorem Ts (c:Cf) (h:Qb c):zN 34 [wE c] [] (qY (UD c)) []:=by
 have E:=vz c h;have hj:=h.j;have ha:=h.a;have B:=zA wJ c.js;have A:=zA uI c.ags;have z:∀i,((LP c i).map zM).length=i:=λi=>by simp[LP]
 have u:qY (UD c)= .agg [zE wJ c.js,zE uI c.ags,iA c.per,iA c.cap,iA c.hold,iA c.lock,bA false,iA 0,zE zM (LP c (ln c.ags)),zE vE (c.js.map fN),zE wW (c.js.map IY),zE iA (c.js.map λ_=> -1),zE vR (c.js.map λj=>LK j (fN j) (IY j))]:=rfl;rw[u];unfold wE zE at *;refine eM call34 λF hF=>?_
 refine zS E ?_;refine zQ 7 1011 17 Z Z Z ?_;refine zO ((c.ags.map uI).length) [1011,1,2,3] [1,2,3] [1,2,3,4,40,41] [7,42,1,2,3,4,40,41] Z (λi T U=>⟨(7,.ref 1011 0 ((LP c i).map zM).length)::(42,iA i)::T,(1011,.arr 17 ((LP c i).map zM) true)::U⟩) (Lq ?_ ?_)
 .intro i hi;have O:=zJ uI c.ags i zB;have V:=(G7 (i:Int) _ (h.av _ (yK c.ags i zB))).2;have e:(LP c (i+1)).map zM=(LP c i).map zM++[zM (QW (i:Int) (c.ags.getD i dd) (c.ags.getD i dd).ses.toNat)]:=by unfold LP;rw[zCs,zAy,zAy];rfl
  have z:=z i;rw[e];clear E u e;generalize QW (i:Int) (c.ags.getD i dd) (c.ags.getD i dd).ses.toNat=dk at *;generalize c.ags.getD i dd=a at *;generalize (LP c i).map zM=X at *;unfold zM xD at*
  (have ga:=V;(repeat' (first|refine jX ?_|apply yW|apply xI|intro hc|(apply zG;first|(apply yH;refine vC tok Z Z ?_))|refine SB ?_|fail))<;>clear ga)
  rfl
 ·(refine WW ?_)
  refine zQ 10 1012 5 Z Z Z ?_;refine zQ 11 1013 3 Z Z Z ?_;refine zQ 12 1014 1 Z Z Z ?_;refine zQ 4 1015 4 Z Z Z ?_;rw[A];refine zO ((c.js.map wJ).length) [1012,1013,1014,1015,2,3,1011] [2,3,1011] [2,3,7,55,56] [4,10,11,12,57,2,3,7,55,56] Z (λi T U=>⟨(4,.ref 1015 0 (((c.js.take i).map λj=>LK j (fN j) (IY j)).map vR).length)::(10,.ref 1012 0 (((c.js.take i).map fN).map vE).length)::(11,.ref 1013 0 (((c.js.take i).map IY).map wW).length)::(12,.ref 1014 0 ((c.js.take i).map λ_=>iA (-1)).length)::(57,iA i)::T,(1012,.arr 5 (((c.js.take i).map fN).map vE) true)::(1013,.arr 3 (((c.js.take i).map IY).map wW) true)::(1014,.arr 1 ((c.js.take i).map λ_=>iA (-1)) true)::(1015,.arr 4 (((c.js.take i).map λj=>LK j (fN j) (IY j)).map vR) true)::U⟩) (Lq ?_ ?_)
  .intro i hi;have hi':i<ln c.js:=by omega
   have O:=zJ wJ c.js i hi';have J:=h.jv _ (yK c.js i hi')
   have G:c.js.take (i+1)=c.js.take i++[c.js.getD i dd]:=by
    rw[zA0,zBk hi',zDm,zDk hi']
   have M:(c.js.take i).length<=4:=by rw[zBg];omega
   have S:=Je _ J;have I:=Ot (c.js.getD i dd).ph.length DX;have L:=Zx _ J (fN (c.js.getD i dd)) (Hl J) (IY (c.js.getD i dd));have C:((c.js.getD i dd).ph.map xN).length=(c.js.getD i dd).ph.length:=zAr ..;rw[G];simp only[zAy,zCb,zCj];have m1:(((c.js.take i).map fN).map vE).length=(c.js.take i).length:=by simp
   have m2:(((c.js.take i).map IY).map wW).length=(c.js.take i).length:=by simp
   have m3:((c.js.take i).map λ_=>iA (-1)).length=(c.js.take i).length:=by simp
   have m4:(((c.js.take i).map λj=>LK j (fN j) (IY j)).map vR).length=(c.js.take i).length:=by simp
   clear E u G J;unfold IY at *;rw[<-C]at I L⊢;generalize sh ((c.js.getD i dd).ph.map xN).length=sv,fN (c.js.getD i dd)=W at *;generalize LK (c.js.getD i dd) W sv=vw at *;generalize c.js.getD i dd=j,((c.js.take i).map fN).map vE=Y at *;generalize ((c.js.take i).map λj=>sh (ln j.ph)).map wW=X2 at *;generalize (c.js.take i).map (λ_=>iA (-1))=X3,((c.js.take i).map λj=>LK j (fN j) (sh (ln j.ph))).map vR=X4 at *;unfold wJ zE vE wW vR at*
   (have ga:=S;have ge:=I;have gn:=L;(repeat' (first|refine jX ?_|apply yW|apply xI|intro hc|(apply zG;first|(apply yH;refine vC tok Z Z ?_))|refine SB ?_|fail))<;>clear ga ge gn)
   rfl
  .rw[B,zAt];refine WW ?_;refine zH [] Z Z ?_ Z
   show AV.agg [.sl false (c.js.map wJ),.sl false (c.ags.map uI),iA c.per,iA c.cap,iA c.hold,iA c.lock,bA false,iA 0,.sl false (py ((LP c (ln c.ags)).map zM).length (p5 0 ((LP c (ln c.ags)).map zM))),.sl false (py ((c.js.map fN).map vE).length (p5 0 ((c.js.map fN).map vE))),.sl false (py ((c.js.map IY).map wW).length (p5 0 ((c.js.map IY).map wW))),.sl false (py (c.js.map λ_=>iA (-1)).length (p5 0 (c.js.map λ_=>iA (-1)))),.sl false (py ((c.js.map λj=>LK j (fN j) (IY j)).map vR).length (p5 0 ((c.js.map λj=>LK j (fN j) (IY j)).map vR)))]=_
   rw[zBd,zAt,zBd,zAt,zBd,zAt,zBd,zAt,zBd,zAt,show(c.js.map λ_=>iA (-1))=(c.js.map λ_=>(-1:Int)).map iA by rw[zGf];rfl]
