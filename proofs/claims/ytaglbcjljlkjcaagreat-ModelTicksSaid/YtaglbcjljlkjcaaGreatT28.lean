/- Part 28. -/
import Derived.Test.YtaglbcjljlkjcaaGreatT27
namespace Go.Proofs.YtaglbcjljlkjcaaGreat.Av
open Tryz
set_option linter.all false
set_option maxRecDepth 4000
set_option maxHeartbeats 8000000
open List renaming length->ln,replicate->oj,range->pb,take->pi,drop->py
open Inhabited renaming default->dd
variable {c:Cf}{y:Cy}{f3:Int}{ins:List In}{R:Nat->DR}
section
variable {P:Program} {K0:List Nat} {F:Fr K0} {m:Nat} {ops:Array Oper} {rest:List Oper} {fs:List FP} {tm:List (Nat×AV)} {h:List (Nat×xW)}
def Pb {Q:List FP->St->Prop} (t K sz:Nat) (hv:zK tm t= .s (.slice none 0 0)) (u:(zD h K).isNone=true) (z:Nat.ble 1 sz=true) (h1:yP P F m ops false rest ⟨(t,.ref K 0 0)::tm,(K,.arr sz [] true)::h⟩ fs Q):yP P F m ops false rest ⟨tm,h⟩ fs Q:=
 ⟨λa w R=>h1.run a w (wM.virt R t K sz hv u z)⟩
end
def nz (m:Ms) (h:ZB m):zM 122 [zX m] [] (bA false) []:=by
 obtain⟨k,A,u,z⟩:=m;obtain⟨h1,h2⟩:=h;dsimp only at h1 h2;subst h1;have c:=Uz h2;rw[show zX ⟨k,[],u,z⟩= .agg [iA k,zE yA [],zE iA u,zE yA z]from Z]at *; refine eM call122 λF hF=>?_
 exact mx c
def E6 (l:List Ms) (z:ln l<=1000000) (h:∀m∈l,ZB m):zM 184 [zE zX l,.fn 122 []] [] (iA (-1)) []:=by
 have hl:=zA zX l;refine eM call184 λF hF=>?_
 refine WW ?_;refine zQ (l) [] [] [0,1,7] [8,0,1,7] Z (λi f4 T U=>⟨(8,iA i)::T,U⟩) (Lq ?_ ?_)
 .intro i f4 x post u hi;have B:=zZ zX u hi;have A:=zV u hi;have c:=nz x (h x (yU u));clear u;refine zU c ?_;rfl
 .exact ly
def mz (l:List Ms) (u:ln l<=1000000) (h:∀m∈l,ZB m):zM 121 [zE zX l,.fn 122 []] [] (zE zX l) []:=by
 have c:=E6 l u h;have hl:=zA zX l;refine eM call121 λF hF=>?_
 exact mx c
def DD (l:List Ms) (u:ln l<=1000000) (h:∀m∈l,ZB m):zM 51 [zE zX l] [] (zE zX l) []:=by
 have c:=mz l u h;have hl:=zA zX l;refine eM call51 λF hF=>?_
 exact mx c
def Rj (y:Int):0<=fW y/\fW y<256:=by
 unfold fW;have e:IntKind.u8.wrap y=y % 256:=by simp[IntKind.wrap,IntKind.signed,IntKind.bits]
 rw[e];omega
def Qj {l:List Vw} (h:∀v∈l,Ua v):BY (XU l):=λx u=>by
 unfold XU at u;obtain⟨y,z,u⟩:=zFb.1 u;obtain⟨v,hv,rfl⟩:=zCo.1 z;have hb:=h v hv;have hc:=OL hb.c (ln v.co) (zBa _) hb.n;have A:=fX (ln v.co) hb.n;have B:=f5 (n:=vK v.co (ln v.co)) hc.1 zB;unfold K9 at u;simp only[zEk,zEf,zCt,zCo]at u
 rcases u with rfl|rfl|rfl|⟨y,_,rfl⟩
 .unfold EG
  split<;>split<;>omega
 .omega
 all_goals exact Rj _
def lz (l:List Rq) (v:List Vw) (f3:Int) (n:Nat):BY (TZ l v f3 n):=λx u=>by
 unfold TZ at u;obtain⟨i,_,rfl⟩:=zCo.1 u;unfold xe;split
 .have:=ye ((l.getD (i/3) dd).legs.getD (i % 3) dd) v f3;omega
 .omega
theorem Rx (d:wD) (B:0<=d.rg.ag.req/\d.rg.ag.req<=4) (v:List Vw) (f3:Int) (C:0<=f3) (E:f3<=1073741824) (A:ln v<=4) (hb:∀w∈v,Ua w):ZB (KQ d v f3):=by
 have h1:=cZ hb;have h2:=dS [f3];have z:(TZ d.rq v f3 (d.rg.ag.req.toNat*3)).length=d.rg.ag.req.toNat*3:=by simp[TZ]
 refine⟨rfl,by dsimp only[KQ,kw];omega,.cons zB .nil,by simp[KQ,kw],?_,.inl Z,.inl ⟨rfl,rfl⟩,?_⟩
 .intro x u
  rcases zBq.1 u with u|u
  .exact Qj hb x u
  .exact lz _ _ _ _ x u
 .show(([f3].map jS).flatten).length+1+(XU v++TZ d.rq v f3 (d.rg.ag.req.toNat*3)).length<=200
  grind
def QL (f3:Int) (v:List Vw):Ms:=⟨21,[],[f3],XU v⟩
theorem rz (v:List Vw) (f3:Int) (z:0<=f3) (A:f3<=1073741824) (u:ln v<=4) (hb:∀w∈v,Ua w):ZB (QL f3 v):=by
 have h1:=cZ hb;have h2:=dS [f3];refine⟨rfl,by dsimp only[QL];omega,.cons zB .nil,by simp[QL],Qj hb,.inl Z,.inl ⟨rfl,rfl⟩,?_⟩
 grind [ZB,QL]
def iz (f3:Int) (v:List Vw) (u:ln v<=1000) (hb:∀w∈v,Ua w):zM 52 [iA f3,zE vO v] [] (zX (QL f3 v)) []:=by
 have B:=Dp v u hb;have A:=zA yA (XU v);refine eM call52 λF hF=>?_
 refine zU B ?_;refine zI [] Z Z ?_ Z;exact zBp (λz=>AV.agg [iA 21,AV.sl false [],AV.sl false [iA f3],AV.sl false z]) zA8
def fJ (e:En):List Int:=[e.ag,e.ki,e.co]
def bj (f3:Int) (u:List En):Ms:=⟨18,[],f3::((u.take 16).map fJ).flatten,[]⟩
theorem D6 (f3:Int) (S:0<=f3) (U:f3<=1073741824) (A:List En) (h:∀e∈A,Dj e):ZB (bj f3 A):=by
 have hl:(A.take 16).length<=16:=by rw[zBt];omega
 have B:∀e∈A.take 16,Dj e:=λe u=>h e (zCz u)
 unfold bj;generalize A.take 16=l at*
 have E:((l.map fJ).flatten).length=3*ln l:=by
  clear B hl
  induction l with
  |nil=>rfl
  |cons e l C=>rw[zCn,zD2,zA9,C,zBj];show 3+_=_;omega
 have O:((((l.map fJ).flatten).map jS).flatten).length<=4*ln l:=by
  clear E hl
  induction l with
  |nil=>simp
  |cons e l C=>
   have C:=C λx z=>B x (by simp[z])
   have u:=B e zW;have e1:=DK (n:=e.ag) (by have:=u.a;omega);have L:=u7 (n:=e.ki) (by have:=u.k;omega);have e3:=DK (n:=e.co) (by have:=u.c;omega);rw[zCn,zD2,zBc,zEq,zA9,zBj]
   grind [ZB,bj,fJ]
 have I:=(gD f3).2;refine⟨rfl,by dsimp only;omega,?_,by dsimp only;rw[zBj];omega,λx z=>(by cases z),.inr Z,.inr ⟨.inr Z,(ln l:Int),?_,zB,by show(0:Int)<=_;omega,by show _<=(16:Int);omega⟩,?_⟩
 .refine .cons zB ?_;intro x z;obtain⟨y,G,z⟩:=zFb.1 z;obtain⟨e,u,rfl⟩:=zCo.1 G;have hk:=B e u;have h1:=hk.a;have h2:=hk.k;have M:=hk.c
  grind [ZB,bj,fJ]
 .show((f3::(l.map fJ).flatten).length:Int)=1+3*(ln l:Int)
  grind
 all_goals grind
def Gg (d:wD) (z:List Vw) (f3:Int) (k:Nat) (R:List (List Ms)) (u:List En):List Ms:=(R.getD k []++[KQ d z f3])++(if d.au.getD k dd=true then [bj f3 u]else [])
theorem Qx (d:wD) (B:0<=d.rg.ag.req/\d.rg.ag.req<=4) (v:List Vw) (f3:Int) (C:0<=f3) (E:f3<=1073741824) (A:ln v<=4) (hb:∀w∈v,Ua w) (k:Nat) (R:List (List Ms)) (z:∀l∈R,ln l<=1000/\∀m∈l,ZB m) (hk:k<ln R) (u:List En) (h:∀e∈u,Dj e):(Gg d v f3 k R u).length<=1002/\∀m∈Gg d v f3 k R u,ZB m:=by grind [ZB,Gg,List.getElem?_eq_getElem,List.getElem_mem,List.length_append,List.length_cons,List.length_nil,List.mem_singleton,Rx,D6]
theorem E9 (u:List En):u.take (min ((u.map kF).length:Int) 16).toNat=u.take 16:=by grind [kF,List.length_map,List.take_of_length_le]
theorem Ar (y:Cy) (n0:0<=y.f3) (n1:y.f3<=1073741824) (a k s:Nat) (ha:a<ln y.ds) (hd:dH (y.ds.getD a dd)) (Y:0<=(y.ds.getD a dd).rg.ag.req/\(y.ds.getD a dd).rg.ag.req<=4) (hn:ln y.vw<=4) (hb:∀w∈y.vw,Ua w) (hk:k<(y.ds.getD a dd).au.length)
  (R:List (List Ms)) (S:∀l∈R,ln l<=1000/\∀m∈l,ZB m) (A:k<ln R) (u:List En) (he:∀e∈u,Dj e) (ac:ln u<=100000):
  zM 50 [qO y,Yk a k s,zE jC R,zE kF u] [] (zE zX (Gg (y.ds.getD a dd) y.vw y.f3 k R u)) []:=by
 have ht:=Qx _ Y y.vw y.f3 n0 n1 hn hb k R S A u he;have z:=DD (Gg (y.ds.getD a dd) y.vw y.f3 k R u) zB ht.2;have C:=wq (y.ds.getD a dd) hd Y y.vw y.f3 zB hb;have M:=zJ zN y.ds a ha;have B:=zJ jC R k A;have a2:=zJ bA (y.ds.getD a dd).au k hk;have ax:=zA jC R;have ap:=zA kF u;have ar:=zA bA (y.ds.getD a dd).au;have I:=(S _ (yL R k A)).1;have eR:R.getD k dd=R.getD k []:=rfl;unfold qO aH;unfold Gg at z⊢;rw[eR]at B I;generalize KQ (y.ds.getD a dd) y.vw y.f3=st,R.getD k []=E at *;have av:=zA zX E;unfold jC zE at B;generalize y.ds.getD a dd=d at *;unfold zN xD at M C;refine eM call50 λF hF=>?_
 refine zU C ?_;refine Pb 25 1001 4 Z Z Z ?_;generalize d.au.getD k dd=b at *;cases b
 .have e1:zE zX ((E++[st])++if false=true then [bj y.f3 u]else [])= .sl false (E.map zX++[zX st]):=by
   rw[Os zBl,zB1];unfold zE;rw[zBc];rfl
  rw[e1]at z⊢
  (have ga:=C;(repeat' (first|refine uQ ?_|apply yW|apply xG|intro hc|(apply zG;first|refine SM ?_)|fail))<;>clear ga)
  (refine vH 51 ?_;refine vX [] [85] Z ?_;(conv=>whnf);(try simp only[zBr,zA8]);first|refine wJ (zL (z) Z Z Z Z Z) Z ?_|refine uX (zL (z) Z Z Z Z Z) Z Z Z ?_|refine aK (zL (z) Z Z Z Z Z) Z Z Z ?_)
  (repeat' (first|refine uQ ?_|apply yW|apply xG|intro hc|(apply zG;first|refine SM ?_)|fail))
  exact zH
 .have e1:zE zX ((E++[st])++if true=true then [bj y.f3 u]else [])= .sl false ((E.map zX++[zX st])++[zX (bj y.f3 u)]):=by
   rw[zA4 Z];unfold zE;rw[zBc,zBc];rfl
  rw[e1]at z⊢
  (have ga:=C;(repeat' (first|refine uQ ?_|apply yW|apply xG|intro hc|(apply zG;first|refine SM ?_)|fail))<;>clear ga)
  rw[E9];have V:(u.take 16).length<=16:=by rw[zBt];omega
  have W:=zA kF (u.take 16);rw[show zX (bj y.f3 u)= .agg [iA 18,.sl false [],.sl false ((y.f3::((u.take 16).map fJ).flatten).map iA),.sl false []]from Z]at *; generalize u.take 16=O at *;refine vS 57 Z ?_;refine zQ (O) [11,57,1001] [1001] [10,11,63,64] [65,10,11,63,64] Z (λi f4 T U=>⟨(65,iA i)::T,(11,.box [iA 18,.s (.slice none 0 0),.ref 57 0 ((y.f3::(f4.map fJ).flatten).map iA).length,.s (.slice none 0 0)])::(57,.arr 1 ((y.f3::(f4.map fJ).flatten).map iA) true)::U⟩) (Lq ?_ ?_)
  .intro i f4 x post G hi;have hy:=zZ kF G hi;have az:=zV G hi
   have a1:((f4.map fJ).flatten).length=3*ln f4:=by
    clear G hi hy
    induction f4 with
    |nil=>rfl
    |cons e l ih=>rw[zCn,zD2,zA9,ih,zBj];show 3+_=_;omega
   have L:=zA iA (y.f3::(f4.map fJ).flatten);rw[zBj]at L;rw[zBc,zEq];rw[show(y.f3::((f4.map fJ).flatten++([x].map fJ).flatten)).map iA=(y.f3::(f4.map fJ).flatten).map iA++[iA x.ag,iA x.ki,iA x.co] by simp[fJ]];unfold kF OM at hy;clear G z C e1;generalize (y.f3::(f4.map fJ).flatten).map iA=X at *;refine WW ?_;rfl
  .refine wL [11,1001] [10,11,63,64,65] Z ?_
   (conv=>whnf)
   simp only[zBr,zA8]
   (repeat' (first|refine jX ?_|apply yW|apply xG|intro hc|(apply zG;first|(apply yI;refine ZW 82 Z Z Z ?_;refine vE tok Z Z ?_))|refine SB ?_|fail))
   (refine vH 51 ?_;refine vX [] [85] Z ?_;(conv=>whnf);(try simp only[zBr,zA8]);first|refine wJ (zL (z) Z Z Z Z Z) Z ?_|refine uX (zL (z) Z Z Z Z Z) Z Z Z ?_|refine aK (zL (z) Z Z Z Z Z) Z Z Z ?_)
   (repeat' (first|refine uQ ?_|apply yW|apply xG|intro hc|(apply zG;first|refine SM ?_)|fail))
   exact zH
structure KR (y:Cy):Prop where
 v:Hb y.c
 rf:y.rf=false
 n0:0<=y.f3
 dl:y.ds.length=y.c.ags.length
 di:∀d∈y.ds,qC y.c d
 dg:∀a,a<y.ds.length->(y.ds.getD a default).rg.ag=y.c.ags.getD a default
 sc:∀d∈y.ds,KU y.f3 d.rq
 gl:y.sg.length=y.c.js.length
 sl:y.sv.length=y.c.js.length
 tl:y.st.length=y.c.js.length
 wl:y.vw.length=y.c.js.length
 wb:∀w∈y.vw,Ua w
 j:∀k,k<y.c.js.length->JI (y.c.js.getD k default) (y.sg.getD k default) (y.sv.getD k default) y.f3
def DE {α:Type} [Inhabited α] {l:List α} {x:α} (h:x∈l):∃i,i<ln l/\l.getD i dd=x:=by
 obtain⟨i,hi,e⟩:=List.mem_iff_getElem.1 h;exact⟨i,hi,by rw[zBk,zB2 hi];exact e⟩
theorem KR.b (h:KR y):T6 y:=by
 have M:=h.v.a;have hj:=h.v.j;have h1:=h.dl;have h2:=h.gl;have E:=h.sl;have G:=h.tl;have I:=h.wl;refine⟨zB,λd hd=>(h.di d hd).bd,zB,λs u=>?_,zB,λs u=>?_,zB,zB,λw B=>?_⟩
 .obtain⟨i,hi,rfl⟩:=DE u;have J:=h.v.jv _ (yL y.c.js i zB);have C:=(h.j i zB).c;have z:=J.n;have A:=C.n;have L:=C.m;omega
 .obtain⟨i,hi,rfl⟩:=DE u;have J:=h.v.jv _ (yL y.c.js i zB);have z:=J.n;have A:=(h.j i zB).n;omega
 .have:=h.wb w B;have z:=this.n;have A:=this.m;omega
def bB (c:Cf) (z:List Sg) (u:List Int):List Sg:=u.foldl (λs x=>s.set x.toNat (Qr (c.js.getD x.toNat dd) (s.getD x.toNat dd))) z
theorem DF (c:Cf) (z:List Sg) (u:List Int) (x:Int):bB c z (u++[x])=(bB c z u).set x.toNat (Qr (c.js.getD x.toNat dd) ((bB c z u).getD x.toNat dd)):=by grind [bB,Qr]
theorem KS {α:Type} [Inhabited α] (l:List α) (i j:Nat) (x:α) (hj:j<ln l):(l.set i x).getD j dd=if i=j then x else l.getD j dd:=by grind
theorem KT (hv:Hb c) {sv:List Sv} :∀(z:List Int) (u:List Sg),ln u=ln c.js->(∀k,k<ln c.js->JI (c.js.getD k dd) (u.getD k dd) (sv.getD k dd) f3)->(bB c u z).length=ln c.js/\∀k,k<ln c.js->JI (c.js.getD k dd) ((bB c u z).getD k dd) (sv.getD k dd) f3
 | [],u,hl,h=>⟨hl,h⟩
 |x::z,u,hl,h=>by
  have e:bB c u (x::z)=bB c (u.set x.toNat (Qr (c.js.getD x.toNat dd) (u.getD x.toNat dd))) z:=rfl;rw[e];refine KT hv z _ (by rw[zCj];exact hl) λk hk=>?_
  rw[KS _ _ _ _ zB];split
  .rename_i A;rw[A];have H:=h k hk;exact⟨zAg (hv.jv _ (yL c.js k hk)) H.c,H.n,H.e,H.g⟩
  .exact h k hk
theorem Zs (D:Nat->Sg×Sv) (l:List Sg) (n k:Nat) (h1:k<n) (h2:k<ln l):(YR D l n).getD k dd=(D k).1:=by grind [YR,vY]
theorem Ys (D:Nat->Sg×Sv) (l:List Sv) (n k:Nat) (h1:k<n) (h2:k<ln l):(YS D l n).getD k dd=(D k).2:=by grind [YS,vY]
def EP (u:List Jn) (D:Nat->Sg×Sv) (n:Nat):List Vw:=(pb n).map λk=>LQ (u.getD k dd) (D k).1 (D k).2
theorem Xs (u:List Jn) (D:Nat->Sg×Sv) (n:Nat):yh u D n n=(EP u D n).map vO:=by simp_all [yh,EP,vO]
def eO (y:Cy) (R:Nat->DR):Nat->Sg×Sv:=ZI y.c (bB y.c y.sg (dF R (ln y.ds))) y.sv y.st (eQ (y.f3+1) y.ds R (ln y.ds)) (y.f3+1)
def kG (y:Cy) (R:Nat->DR):Cy:=
 ⟨y.c,false,y.f3+1,eQ (y.f3+1) y.ds R (ln y.ds),YR (eO y R) (bB y.c y.sg (dF R (ln y.ds))) (ln y.c.js),YS (eO y R) y.sv (ln y.c.js),XY y.st (ln y.c.js),EP y.c.js (eO y R) (ln y.c.js)⟩
def Pj (y:Cy) (ins:List In) (R:Nat->DR):Prop:=∀a,a<ln y.ds->S9 y.c (y.f3+1) (XV (y.ds.getD a dd) (y.f3+1)) (aj y.c ins a) (R a)/\zM 115 [wH y.c,zN (XV (y.ds.getD a dd) (y.f3+1)),zE uT (aj y.c ins a),iA (y.f3+1)] [] (Bj (R a)) []/\∀m k,aj y.c ins a=m++oj k dd->zM 56 [wH y.c,zN (XV (y.ds.getD a dd) (y.f3+1)),zE uT m,iA (y.f3+1)] [] (Bj (R a)) []
theorem aG {u:List wD} {a:Nat} (z:a<ln u):(eQ f3 u R (ln u)).getD a dd=(R a).d:=by grind [eQ]
def fZ (f3:Int) (u:List wD) (R:Nat->DR):(eQ f3 u R (ln u)).length=ln u:=by simp[eQ]
theorem YO {u:List wD} {d:wD} (h:d∈eQ f3 u R (ln u)):∃a,a<ln u/\d=(R a).d:=by grind [eQ]
def Ob (l:List Rq) (f3:Int):WN l (KH l f3):=WN.filter _ _
noncomputable def Aa (y:Cy) (ins:List In) (a:Nat):DR:=ZH y.c (XV (y.ds.getD a dd) (y.f3+1)) (aj y.c ins a) (y.f3+1)
def Px (h:KR y) (I:y.f3<1000000000) (z:∀i∈ins,DL i):Pj y ins (Aa y ins):=λa B=>by
 have A:=h.di _ (yL y.ds a B);obtain⟨C,G,_⟩:=X8 A (y.f3+1);have u:=A.au;rw[h.dg a B]at u;have L:=(h.v.av _ (yL y.c.ags a (by have:=h.dl;omega))).e;have M:=h.n0
 exact Cg y.c _ C (aj y.c ins a) (by unfold aj Nb;rw[zA5,zCp];show _=(y.ds.getD a dd).au.length;omega) (λi hi=>by
  unfold aj Nb at hi;obtain⟨k,_,rfl⟩:=zCo.1 hi;by_cases hk:(jE y.c.ags a).toNat+k<ln ins
  .exact z _ (yL ins _ hk)
  .rw[zBk,zCi zB]
   exact⟨zBn _,λx E=>by cases E⟩) (y.f3+1) zB zB
theorem DG (h:KR y) (A:Pj y ins R):KR (kG y R):=by
 have L:=h.n0;have E:=KT h.v (sv:=y.sv) (f3:=y.f3) (dF R (ln y.ds)) y.sg h.gl h.j
 have I:∀k,k<ln y.c.js->JI (y.c.js.getD k dd) (eO y R k).1 (eO y R k).2 (y.f3+1):=λk hk=>by
  have J:=h.v.jv _ (yL y.c.js k hk);have H:=E.2 k hk;exact zAb J zB ⟨H.c,H.n,λe C=>by have:=H.e e C;omega,H.g⟩ _ _ _
 have G:=h.sl;refine⟨h.v,rfl,by show 0<=y.f3+1;omega,(fZ ..).trans h.dl,λd hd=>?_,λa z=>?_,λd hd=>?_,?_,?_,?_,?_,λw B=>?_,λk hk=>?_⟩
 .obtain⟨a,z,rfl⟩:=YO hd;exact(A a z).1.i
 .have u:a<ln y.ds:=by rw[<-fZ (y.f3+1) y.ds R];exact z
  show((eQ (y.f3+1) y.ds R (ln y.ds)).getD a dd).rg.ag=_
  rw[aG u,(A a u).1.ag];exact h.dg a u
 .obtain⟨a,z,rfl⟩:=YO hd;refine(A a z).1.sc ?_;exact KU.of zB ((h.sc _ (yL y.ds a z)).mono zB) (Ob _ _)
 .grind [Pj,kG,YR,vC]
 .grind [Pj,kG,YS,vC]
 .show(XY _ _).length=_
  unfold XY;rw[vC];exact h.tl
 .grind [Pj,kG,EP]
 .unfold kG EP at B;obtain⟨k,hk,rfl⟩:=zCo.1 B;exact Jx _ (h.v.jv _ (yL y.c.js k (zBv.1 hk))) _ _
 all_goals grind [Pj,kG,YR,eO,bB,dF,YS,Zs,Ys]
def zb (y:Cy) (ins:List In) (R:Nat->DR) (n a k:Nat):List Ms:=if(ins.getD ((jE y.c.ags a).toNat+k) dd).opn=true then Gg (y.ds.getD a dd) y.vw y.f3 k (R a).R (XX R n)else []
def OR (T:Nat->Nat->List Ms) (a k:Nat):List (List Ms):=(pb k).map (T a)
def SP (c:Cf) (T:Nat->Nat->List Ms) (n:Nat):List (List Ms):=((pb n).map λa=>OR T a (c.ags.getD a dd).ses.toNat).flatten
def Ox (T:List (List Ms)) (f:Ms):AV:= .agg [zE jC T,zE zX [f]]
def DH (T:Nat->Nat->List Ms) (a k:Nat):OR T a (k+1)=OR T a k++[T a k]:=by simp[OR,zC6]
def UB (c:Cf) (T:Nat->Nat->List Ms) (n:Nat):SP c T (n+1)=SP c T n++OR T n (c.ags.getD n dd).ses.toNat:=by simp[SP,zC6]
theorem YP (u:LV c.ags) (T:Nat->Nat->List Ms):∀n,n<=ln c.ags->((SP c T n).length:Int)=jE c.ags n
 |0,_=>rfl
 |n+1,z=>by
  have A:=YP u T n zB;have:=u.at (i:=n) zB;rw[UB,zA9]
  show _=jE c.ags n+(c.ags.getD n dd).ses
  have:(OR T n (c.ags.getD n dd).ses.toNat).length=(c.ags.getD n dd).ses.toNat:=by simp[OR]
  omega
theorem re (z:LV c.ags) (T:Nat->Nat->List Ms):∀n,n<=ln c.ags->∀s,s<(SP c T n).length->∃a k:Nat,a<n/\(k:Int)<(c.ags.getD a dd).ses/\s=(jE c.ags a).toNat+k/\(SP c T n).getD s []=T a k
 |0,_,s,u=>by cases u
 | n+1,C,s,u=>by
  have hl:=YP z T n zB;rw[UB]at u⊢;by_cases h:s<(SP c T n).length
  .obtain⟨a,k,h1,h2,A,B⟩:=re z T n zB s h;refine⟨a,k,zB,h2,A,?_⟩;rw[zBk,zB8 h,<-zBk];exact B
  .rw[zA9]at u;have E:(OR T n (c.ags.getD n dd).ses.toNat).length=(c.ags.getD n dd).ses.toNat:=by simp[OR]
   refine⟨n,s-(SP c T n).length,zB,zB,zB,?_⟩;rw[zBk,zCa zB];unfold OR;rw[zBd,zC3 zB];rfl
theorem Ze {n:Nat} {x:Int} (h:x∈dF R n):∃a,a<n/\x∈(R a).ks:=by grind [dF]
theorem HC {n:Nat} {x:En} (h:x∈XX R n):∃a,a<n/\x∈(R a).en:=by grind [XX]
def W6 (T:List (List Ms)) (f:Ms):AV:= .agg [.ref 1051 0 (T.map jC).length,zE zX [f]]
def V6 (T:List (List Ms)):List (Nat×xW):=[(1051,.arr 1 (T.map jC) true)]
theorem Ye (y:Cy) (h:KR y) (hn:y.f3<1000000000) (ins:List In) (bx:(ln ins:Int)<=jE y.c.ags (ln y.c.ags)) (R:Nat->DR) (L:Pj y ins R) (a5:∀i,(R i).en.length<=2000) (a7:∀i,(R i).ks.length<=2000):
  zM 12 [qO y,zE uT ins] [] (.tup [qO (kG y R),W6 (SP y.c (zb (kG y R) ins R (ln y.ds)) (ln y.c.ags)) (QL (y.f3+1) (kG y R).vw)]) (V6 (SP y.c (zb (kG y R) ins R (ln y.ds)) (ln y.c.ags))):=by
 have hb:=h.b;have n0:=h.n0;have hw:=h.v.ag;have k1:=DT y hb;have cb:=h.dl;have k2:=zh y.c hw (y.f3+1) zB zB y.ds h.dl (λi hi=>h.di _ (yL y.ds i hi)) ins bx R a5 a7 (λa E=>(L a E).2.1) (y.sg.map wZ) (y.sv.map wU) (y.st.map iA) (y.sg.map wZ).length (y.sv.map wU).length (y.st.map iA).length y.vw;have cc:=zA uT ins;have a8:min y.f3 1073741823+1=y.f3+1:=by omega
 have a9:=h.rf;have eC:qO y= .agg [zE wK y.c.js,zE uK y.c.ags,iA y.c.per,iA y.c.cap,iA y.c.hold,iA y.c.lock,bA false,iA y.f3,zE zN y.ds,zE wZ y.sg,zE wU y.sv,zE iA y.st,zE vO y.vw]:=by rw[<-a9];rfl
 unfold HG HI aH at k1;rw[eC,a9]at k1;unfold aH at k2;rw[eC];refine eM call12 λF hF=>?_
 refine zU k1 ?_;rw[a8];refine zU k2 ?_;refine wL [2,3,4,5,6,7,1012,1013,1014] [2,3,4,5,6,7,34,35,36] Z ?_
 (conv=>whnf)
 have a4:(y.ds.map zN).length=((eQ (y.f3+1) y.ds R (ln y.ds)).map zN).length:=by rw[zA5,zA5,fZ]
 have bu:=zA wZ y.sg;have b1:=zA wU y.sv;have b0:=zA iA y.st;have a6:=h.gl;have bb:=h.sl;have ba:=h.tl;simp only[zBr];rw[a4,zA8,bu,b1,b0,a6,bb,ba];clear k1 k2
 have ac:∀x∈dF R (ln y.ds),0<=x/\x<(ln y.c.js:Int):=λx S=>by
  obtain⟨a,E,S⟩:=Ze S;exact(L a E).1.ks x S
 have ce:=UD a7 (ln y.ds);have b5:=h.v.a;have b7:(dF R (ln y.ds)).length<=10000:=by omega
 have cd:=zA wK y.c.js;have cf:=zA iA (dF R (ln y.ds));have eY:kG y R=⟨y.c,false,y.f3+1,eQ (y.f3+1) y.ds R (ln y.ds),YR (eO y R) (bB y.c y.sg (dF R (ln y.ds))) (ln y.c.js),YS (eO y R) y.sv (ln y.c.js),XY y.st (ln y.c.js),EP y.c.js (eO y R) (ln y.c.js)⟩:=rfl;refine zQ ((dF R (ln y.ds))) [1012,2,3,4,5,6,7,1013,1014] [2,3,4,5,6,7,1013,1014] [2,3,4,5,6,7,34,35,86] [36,2,3,4,5,6,7,34,35,86] Z (λi f4 T U=>⟨(36,iA i)::T,(1012,.arr 5 ((bB y.c y.sg f4).map wZ) false)::U⟩) (Lq ?_ ?_)
 .intro i f4 x post S hi;have hy:=zZ iA S hi;have cg:=zV S hi;have ap:=ac x (yU S);obtain⟨V,W⟩:=KT h.v (sv:=y.sv) (f3:=y.f3) f4 y.sg h.gl h.j;have J:=h.v.jv _ (yL y.c.js x.toNat zB);have C:=(W x.toNat zB).c;have hJ:=J.n;have hC:=C.n;have hM:=C.m;have kr:=El (y.c.js.getD x.toNat dd) J ((bB y.c y.sg f4).getD x.toNat dd) zB zB;have cm:=yF wK y.c.js x ap.1 ap.2;have cl:=yF wZ (bB y.c y.sg f4) x ap.1 zB;have b6:=zA wZ (bB y.c y.sg f4);rw[DF,zCs];clear S ac eY L J C W;generalize (bB y.c y.sg f4).getD x.toNat dd=s,y.c.js.getD x.toNat dd=j at *;generalize bB y.c y.sg f4=X at *;generalize X.map wZ=Y at *;refine zU kr ?_;rfl
 .obtain⟨V,W⟩:=KT h.v (sv:=y.sv) (f3:=y.f3) (dF R (ln y.ds)) y.sg h.gl h.j
  have u:=jk y.c h.v (y.f3+1) zB zB (eQ (y.f3+1) y.ds R (ln y.ds)) (by rw[fZ];omega) (λd hd=>by
    obtain⟨a,E,rfl⟩:=YO hd
    exact(L a E).1.i) (λd hd=>by
    obtain⟨a,E,rfl⟩:=YO hd;refine(L a E).1.sc ?_
    exact KU.of zB ((h.sc _ (yL y.ds a E)).mono zB) (Ob _ _)) (bB y.c y.sg (dF R (ln y.ds))) y.sv y.st y.vw V h.sl h.tl (λk hk=>by
    have H:=W k hk
    exact⟨H.c,H.n,λe he=>by have:=H.e e he;omega,H.g⟩)
  have l1:((bB y.c y.sg (dF R (ln y.ds))).map wZ).length=ln y.c.js:=by rw[zA5];exact V
  have l2:(y.sv.map wU).length=ln y.c.js:=by rw[zA5];exact h.sl
  have l3:(y.st.map iA).length=ln y.c.js:=by rw[zA5];exact h.tl
  have l4:((YR (eO y R) (bB y.c y.sg (dF R (ln y.ds))) (ln y.c.js)).map wZ).length=ln y.c.js:=by unfold YR;rw[zA5,vC];exact V
  have l5:((YS (eO y R) y.sv (ln y.c.js)).map wU).length=ln y.c.js:=by unfold YS;rw[zA5,vC];exact h.sl
  have l6:((XY y.st (ln y.c.js)).map iA).length=ln y.c.js:=by unfold XY;rw[zA5,vC];exact h.tl
  have l7:((EP y.c.js (eO y R) (ln y.c.js)).map vO).length=ln y.c.js:=by simp[EP]
  have br:=zA uK y.c.ags;unfold R9 at u;rw[show ZI y.c (bB y.c y.sg (dF R (ln y.ds))) y.sv y.st (eQ (y.f3+1) y.ds R (ln y.ds)) (y.f3+1)=eO y R from Z,Xs,l1,l2,l3,l4,l5,l6]at u;have eT:qO (kG y R)= .agg [zE wK y.c.js,zE uK y.c.ags,iA y.c.per,iA y.c.cap,iA y.c.hold,iA y.c.lock,bA false,iA (y.f3+1),zE zN (kG y R).ds,zE wZ (kG y R).sg,zE wU (kG y R).sv,zE iA (kG y R).st,zE vO (kG y R).vw]:=rfl;have d1:eQ (y.f3+1) y.ds R (ln y.ds)=(kG y R).ds:=rfl;have d2:YR (eO y R) (bB y.c y.sg (dF R (ln y.ds))) (ln y.c.js)=(kG y R).sg:=rfl;have d3:YS (eO y R) y.sv (ln y.c.js)=(kG y R).sv:=rfl;have d4:XY y.st (ln y.c.js)=(kG y R).st:=rfl;have d5:EP y.c.js (eO y R) (ln y.c.js)=(kG y R).vw:=rfl;rw[d2]at u l4;rw[d3]at u l5;rw[d4]at u l6;rw[d5]at u l7;rw[d1]at u⊢;refine zU u ?_;refine wL [2,3,4,5,6,7,11] [2,3,4,5,6,7,11,78,79] Z ?_
  (conv=>whnf)
  simp only[zBr];rw[zBf (l:=(kG y R).sg.map wZ) (zDb l4),zBf (l:=(kG y R).sv.map wU) (zDb l5),zBf (l:=(kG y R).st.map iA) (zDb l6),zBf (l:=(kG y R).vw.map vO) (zDb l7),br];have M:=DG h L;have zc:(kG y R).c=y.c:=rfl;have zn:(kG y R).f3=y.f3+1:=rfl;have zd:(kG y R).ds.length=ln y.ds:=fZ ..;have zR:∀a,a<ln y.ds->(kG y R).ds.getD a dd=(R a).d:=λa E=>aG E
  have cn:=zA zN (kG y R).ds;have eA:∀T f,W6 T f= .agg [.ref 1051 0 (T.map jC).length,zE zX [f]]:=λ_ _=>rfl
  have eH:∀T,V6 T=[(1051,.arr 1 (T.map jC) true)]:=λ_=>rfl
  rw[eT,eA,eH];clear d1 d2 d3 d4 d5 u l1 l2 l3 l4 l5 l6 l7 V W ac eY a4;refine gJ 11 0 1051 1 Z Z Z Z Z ?_
  have az:∀a k,zb (kG y R) ins R (ln y.ds) a k=if(ins.getD ((jE y.c.ags a).toNat+k) dd).opn=true then Gg ((kG y R).ds.getD a dd) (kG y R).vw (kG y R).f3 k (R a).R (XX R (ln y.ds))else []:=λ_ _=>rfl
  generalize zb (kG y R) ins R (ln y.ds)=A at *;generalize kG y R=z at *;refine zO (ln y.c.ags) [11,1051,2,3,4,5,6,7] [2,3,4,5,6,7] [2,3,4,5,6,7,11,78,86] [79,2,3,4,5,6,7,11,78,86] Z (λi T U=>⟨(79,iA i)::T,(11,.box [.ref 1051 0 ((SP y.c A i).map jC).length,.s (.slice none 0 0)])::(1051,.arr 1 ((SP y.c A i).map jC) true)::U⟩) (Lq ?_ ?_)
  .intro i hi;have B:i<ln y.ds:=by omega
   have ks:=Se y.c i;have ht:=Xk y.c hw i hi;obtain⟨I,a3⟩:∃I:Nat,jE y.c.ags i=(I:Int):=⟨(jE y.c.ags i).toNat,by have:=qS hw i zB;omega⟩;obtain⟨N,hN⟩:∃N:Nat,(y.c.ags.getD i dd).ses=(N:Int):=⟨(y.c.ags.getD i dd).ses.toNat,by have:=hw.at (i:=i) zB;omega⟩;have b9:=hw.at (i:=i) zB;have hL:HN y.c i=(pb N).map λk=>[Yk i k (I+k)]:=by unfold HN;rw[a3,hN];rfl
   have cj:=YP hw A i zB;have ci:=qS hw i zB;rw[UB,show(y.c.ags.getD i dd).ses.toNat=N by omega]
   have ck:(List.map (λk=>Lx (R k)) (pb (ln y.ds)))[i]? =some (.sl false ((R i).R.map jC)):=by
    rw[zBd,zC3 B];rfl
   have G:=(L i B).1;have hI:=M.di _ (yL z.ds i zB);have b4:=zR i B
   have ca:(R i).d.au.length=N:=by
    have:=G.i.au;rw[G.ag]at this;have e9:=h.dg i B;rw[show(XV (y.ds.getD i dd) (y.f3+1)).rg.ag=(y.ds.getD i dd).rg.ag from Z,e9]at this;omega
   have a2:(XV (y.ds.getD i dd) (y.f3+1)).au.length=N:=by
    have:=(h.di _ (yL y.ds i B)).au;rw[h.dg i B]at this
    show(y.ds.getD i dd).au.length=N
    omega
   have bl:=G.rn;rw[a2]at bl;have ax:=G.rv
   have av:∀e∈XX R (ln y.ds),Dj e:=λe he=>by
    obtain⟨a,E,he⟩:=HC he;exact(L a E).1.en e he
   have b8:=UC a5 (ln y.ds);have bz:=hI.a.q;have kt:=λk (hk:k<N)=>Ar z M.n0 zB i k (I+k) zB hI.bd bz (by have:=M.wl;have:=M.v.j;omega) M.wb (by rw[b4];omega) (R i).R ax zB (XX R (ln y.ds)) av zB
   have a1:∀k,k<N->A i k=if(ins.getD (I+k) dd).opn=true then Gg (z.ds.getD i dd) z.vw z.f3 k (R i).R (XX R (ln y.ds))else []:=λk hk=>by
    rw[az i k,a3];rfl
   clear az av ax L G hI zR;have eZ:qO z= .agg [zE wK y.c.js,zE uK y.c.ags,iA y.c.per,iA y.c.cap,iA y.c.hold,iA y.c.lock,bA false,iA (y.f3+1),zE zN z.ds,zE wZ z.sg,zE wU z.sv,zE iA z.st,zE vO z.vw]:=eT;rw[eZ]at kt;rw[show zE jC (R i).R= .sl false ((R i).R.map jC)from Z]at kt;generalize (R i).R.map jC=Rm at *;rw[zBc];have b3:=zA jC (SP y.c A i);generalize (SP y.c A i).map jC=X at *;unfold jh at ks ht;unfold wH at ks;refine zU ks ?_
   refine qQ hF ht Z [2,3,4,5,6,7,11,12,1051] [2,3,4,5,6,7,11,12,78,79] Z Z Z Z Z Z Z Z Z (λk ys h=>?_) (λk=>[(2,.box [zE wK y.c.js,zE uK y.c.ags,iA y.c.per,iA y.c.cap,iA y.c.hold,iA y.c.lock,bA false,iA (y.f3+1),zE zN z.ds,zE wZ z.sg,zE wU z.sv,zE iA z.st,zE vO z.vw]),(3,.box [zE uT ins]),(4,.box [.s (.slice none 0 0),.s (.slice none 0 0),iA 0,iA 0,iA 0,iA 0,bA false,iA 0,.s (.slice none 0 0),.s (.slice none 0 0),.s (.slice none 0 0),.s (.slice none 0 0),.s (.slice none 0 0)]),(5,.box [.s (.slice none 0 0),.s (.slice none 0 0)]),(6,.box [.sl false (List.map (λk=>Lx (R k)) (pb (ln y.ds)))]),(7,.box [zE kF (XX R (ln y.ds))]),(11,.box [.ref 1051 0 (X++(OR A i k).map jC).length,.s (.slice none 0 0)]),(12,.box [iA i]),(1051,.arr 1 (X++(OR A i k).map jC) true)]) (λ_=>True)
    (T:=[(2,.ptr 2 0 0),(3,.ptr 3 0 0),(4,.ptr 4 0 0),(5,.ptr 5 0 0),(6,.ptr 6 0 0),(7,.ptr 7 0 0),(11,.ptr 11 0 0),(12,.ptr 12 0 0),(78,iA (ln y.c.ags)),(79,iA i)]) (by rw[show(OR A i 0).map jC=[]from Z,zB1];rfl) trivial (λk ys q ar bk F1 h1 h2=>?_) (λbk=>?_)
   .rw[hL,zBd,zBo]at h;obtain⟨x,_,rfl⟩:=h;rfl
   .have hk:k<N:=by
     have:=(zBw.1 ar).1;rw[hL,zA5,zCp]at this;exact this
    rw[hL,zBd,zC3 hk]at ar;obtain rfl:=zEg ar;have ch:((OR A i k).map jC).length=k:=by unfold OR;rw[zA5,zA5,zCp]
    have kt:=kt k hk;rw[DH,zBc,show [A i k].map jC=[zE zX (A i k)]from Z,a1 k hk,<-zBx];generalize (OR A i k).map jC=O,Gg (z.ds.getD i dd) z.vw z.f3 k (R i).R (XX R (ln y.ds))=tl at *;by_cases hq:I+k<ln ins
    .have bf:=zJ uT ins (I+k) hq;generalize ins.getD (I+k) dd=x at *;unfold uT at bf;obtain⟨xo,xs⟩:=x;refine WW ?_;refine⟨rfl,λF2 V W=>?_⟩;dsimp only at bf⊢;cases xo
     .rw[Os zBl]
      (repeat' (first|refine jX ?_|apply yW|apply xG|intro hc|(apply zG;first|(apply yI;refine ZW 117 Z Z Z ?_;refine vE tok Z Z ?_))|refine SB ?_|fail))
      exact⟨rfl,trivial⟩
     .rw[zA4 Z]
      (have ga:=kt;(repeat' (first|refine jX ?_|apply yW|apply xG|intro hc|(apply zG;first|(apply yI;refine ZW 117 Z Z Z ?_;refine vE tok Z Z ?_))|refine SB ?_|fail))<;>clear ga)
      exact⟨rfl,trivial⟩
    .rw[show(ins.getD (I+k) dd).opn=false by rw[zBk,zCi zB];rfl,Os zBl];refine WW ?_;refine⟨rfl,λF2 V W=>?_⟩
     (repeat' (first|refine jX ?_|apply yW|apply xG|intro hc|(apply zG;first|(apply yI;refine ZW 117 Z Z Z ?_;refine vE tok Z Z ?_))|refine SB ?_|fail))
     exact⟨rfl,trivial⟩
   .rw[show(HN y.c i).length=N by rw[hL,zA5,zCp]]
    show uG _ _ _ _ ⟨_,_⟩ _
    refine WW ?_;rfl
  .have b2:ln z.vw<=4:=by have:=M.wl;have:=M.v.j;omega
   have kf:=iz (y.f3+1) z.vw zB M.wb;have kv:=DD [QL (y.f3+1) z.vw] zW (λm hm=>by rw[zBz.1 hm];exact rz z.vw (y.f3+1) zB zB b2 M.wb);rw[show zE zX [QL (y.f3+1) z.vw]= .sl false [zX (QL (y.f3+1) z.vw)]from Z]at *; generalize QL (y.f3+1) z.vw=fm at *;have b3:=zA jC (SP y.c A (ln y.c.ags));generalize (SP y.c A (ln y.c.ags)).map jC=X at *;refine zU kf ?_
   (refine vH 51 ?_;refine vX [2,4,5,11,1051] [2,4,5,11,127] Z ?_;(conv=>whnf);(try simp only[zBr,zA8]);first|refine wJ (zL (kv) Z Z Z Z Z) Z ?_|refine uX (zL (kv) Z Z Z Z Z) Z Z Z ?_|refine aK (zL (kv) Z Z Z Z Z) Z Z Z ?_)
   refine WW ?_;exact zI [1051] Z Z Z Z
def Zz {u:Cy} {T:List (List Ms)} {f:Ms} (k:zM 12 [qO y,zE uT ins] [] (.tup [qO u,W6 T f]) (V6 T)):zM 12 [qO y,zE uT ins] [] (.tup [qO u,Ox T f]) []:=by
 refine k.frz [] ?_ Z Z
 show AV.tup [_,AV.agg [AV.sl false (pi (T.map jC).length (T.map jC)),_]]=_
 rw[zA8];rfl
def Yz (h:KR y) (hn:y.f3<1000000000) (E:Pj y ins R):ZB (QL (y.f3+1) (kG y R).vw)/\∀x∈SP y.c (zb (kG y R) ins R (ln y.ds)) (ln y.c.ags),ln x<=1002/\∀m∈x,ZB m:=by
 have B:=DG h E;have n0:=h.n0;have hw:=h.v.ag;have W:=h.dl;have A:(kG y R).vw.length<=4:=by have:=B.wl;have:=B.v.j;omega
 have C:∀e∈XX R (ln y.ds),Dj e:=λe G=>by
  obtain⟨a,V,G⟩:=HC G;exact(E a V).1.en e G
 refine⟨rz _ _ zB zB A B.wb,λx hx=>?_⟩;obtain⟨s,M,e⟩:=List.mem_iff_getElem.1 hx;obtain⟨a,k,h1,h2,h3,S⟩:=re hw (zb (kG y R) ins R (ln y.ds)) _ (zBa _) s M;have O:x=zb (kG y R) ins R (ln y.ds) a k:=by rw[<-S,zBk,zB2 M,<-e];rfl
 rw[O];unfold zb;split
 .have u:a<ln y.ds:=by omega
  have z:=(E a u).1
  have L:((XV (y.ds.getD a dd) (y.f3+1)).au.length:Int)=(y.c.ags.getD a dd).ses:=by
   have:=(h.di _ (yL y.ds a u)).au;rw[h.dg a u]at this;exact this
  have U:=z.rn;have hq:=z.i.a.q;have I:(kG y R).ds.getD a dd=(R a).d:=aG u;rw[I];exact Qx _ hq _ _ (by show 0<=y.f3+1;omega) (by show y.f3+1<=_;omega) A B.wb k (R a).R z.rv zB _ C
 .exact⟨zBn _,λm Y=>by cases Y⟩
structure D9 (y y':Cy) (ins:List In) (T:List (List Ms)):Prop where
 i:KR y'
 c:y'.c=y.c
 n:y'.f3=y.f3+1
 l:T.length=ins.length
 v:∀x∈T,x.length<=1002/\∀m∈x,ZB m
 f:ZB (QL (y.f3+1) y'.vw)
 tk:Pj y ins (Aa y ins)/\y'=kG y (Aa y ins)/\T=SP y.c (zb y' ins (Aa y ins) y.ds.length) y.c.ags.length
def Oj (y:Cy) (h:KR y) (z:y.f3<1000000000) (ins:List In) (G:(ln ins:Int)=jE y.c.ags (ln y.c.ags)) (A:∀i∈ins,DL i):
  ∃(B:Cy) (T:List (List Ms)),D9 y B ins T/\zM 12 [qO y,zE uT ins] [] (.tup [qO B,W6 T (QL (y.f3+1) B.vw)]) (V6 T):=by
 have u:=Px h z A;have k:=Ye y h z ins zB (Aa y ins) u (λi=>(eP ..).1) (λi=>(eP ..).2);obtain⟨R,C⟩:∃R,R=Aa y ins:=⟨_,rfl⟩;rw[<-C]at u k;have E:=DG h u;have hl:=YP h.v.ag (zb (kG y R) ins R (ln y.ds)) _ (zBa _);exact⟨kG y R,SP y.c (zb (kG y R) ins R (ln y.ds)) (ln y.c.ags),⟨E,rfl,rfl,zB,(Yz h z u).2,(Yz h z u).1,C▸⟨u,rfl,rfl⟩⟩,k⟩
def C6:AV:= .agg [.s (.slice none 0 0),.s (.slice none 0 0),iA 0,iA 0,iA 0,iA 0]
def Nx (n:Int):AV:= .agg [.sl false [],.sl false [],iA 0,iA 0,iA 0,iA 0,bA true,iA n,.sl false [],.sl false [],.sl false [],.sl false [],.sl false []]
def Ws:AV:= .sl false [.agg [iA 22,.s (.slice none 0 0),.sl false [iA 16],.s (.slice none 0 0)]]
def Fg:zM 148 [iA 0,iA 1,iA 4] [] (bA false) []:=by
 refine eM call148 λF hF=>?_
 (repeat' (first|refine aQ ?_|refine yW (λhc=>?_) λhc=>?_|fail))
 exact zH
def Vs:zM 78 [C6] [] (bA false) []:=by
 have w:=Fg;unfold C6;refine eM call78 λF hF=>?_
 exact mx w
def Us:zM 33 [C6] [] (Nx 0) []:=by
 have w:=Vs;unfold C6 at *;unfold Nx;refine eM call33 λF hF=>?_
 refine zU w ?_;refine zO (0) [2,3] [2,3] [2,3,19,20] [21,2,3,19,20] Z (λi T U=>⟨(21,iA i)::T,U⟩) (Lq ?_ ?_)
 .intro i hi;cases hi
 .exact ly
def B6:zM 44 [Nx 0] [] (Nx 0) []:=
 gk ⟨⟨[],[],0,0,0,0⟩,true,0,[],[],[],[],[]⟩ ⟨by simp,λ_ h=>(by cases h),by simp,λ_ h=>(by cases h),by simp,λ_ h=>(by cases h),by simp,by simp,λ_ h=>(by cases h)⟩
def Nj:zM 113 [] [] Ws []:=by
 unfold Ws;refine eM call113 λF hF=>?_
 exact ng
def A6:AV:= .sl false [.agg [bA true,.s (.slice none 0 0)]]
def Eg:zM 45 [A6] [] (.agg [.sl false [Ws],Ws]) []:=by
 have w:=Nj;unfold A6 Ws at *;obtain⟨z,u,hl,A⟩:∃l:List AV,l=[.agg [bA true,.s (.slice none 0 0)]]/\l.length=1/\l[(0:Nat)]? =some (.agg [bA true,.s (.slice none 0 0)]):=⟨_,rfl,rfl,rfl⟩;rw[<-u];refine eM call45 λF hF=>?_
 refine zU w ?_;rw[hl];refine zO (1) [7,2,3] [2,3] [0,2,3,11] [12,0,2,3,11] Z (λi T U=>⟨(12,iA i)::T,(7,.arr 1 (if i=0 then [.s (.slice none 0 0)]else [.sl false [.agg [iA 22,.s (.slice none 0 0),.sl false [iA 16],.s (.slice none 0 0)]]]) false)::U⟩) (Lq ?_ ?_)
 .intro i hi;obtain rfl:i=0:=by omega
  refine zU w ?_;rfl
 .exact ly
def Mj:zM 12 [Nx 0,A6] [] (.tup [Nx 1,.agg [.sl false [Ws],Ws]]) []:=by
 have w:=Eg;have k:=B6;unfold A6 Ws Nx at *;refine eM call12 λF hF=>?_
 refine zU k ?_;rw[show min (0:Int) 1073741823+1=1 from Z];exact mx w
def Dg:zM 18 [] [] (bA true) []:=by
 have u:=Us;have z:=Mj;unfold C6 at u;unfold A6 Ws Nx at *;refine eM call18 λF hF=>?_
 exact nl (xU u z)
def dW (n a b:Int) (h:a<=n/\n<=b):zM 154 [iA n,iA a,iA b] [] (bA true) []:=by
 have k:=gL n a b
 rwa [show uH n a b=true from zA7 h]at k
def v7 (j:Jn) (J:JV j):zM 210 [zE iA j.cf] [] (bA true) []:=by
 have hl:=zA iA j.cf;have M:=J.n;have hc:=J.c;have I:=S7 (n:=ln j.cf) zB;refine eM call210 λF hF=>?_
 refine WW ?_;refine zO (ln j.cf) [] [] [0,14,15] [16,0,14,15] Z (λi T U=>⟨(16,iA i)::T,U⟩) (Lq ?_ ?_)
 .intro u L;have O:=zJ iA j.cf u L;have z:=J.row u zB;have G:(2:Int) ^ (ln j.ph)=p2 (ln j.cf:Int):=by rw[hc];unfold p2;rw[zBu]
  rw[G,<-hl]at z;have E:=jA j.cf zB u u;rw[J.ir u zB]at E;have A:=λv:Nat=>jA j.cf zB u v
  have B:=λv:Nat=>jA j.cf zB v u
  have C:=λv (hv:v<ln j.cf)=>J.sy u v zB zB
  rw[<-hl]at I;generalize j.cf.getD u dd=x at *;refine zU E ?_;refine zO (ln j.cf) [] [] [0,3,14,15,16,38] [39,0,3,14,15,16,38] Z (λi T U=>⟨(39,iA i)::T,U⟩) (Lq ?_ ?_)
  .intro v hv;have A:=A v;have B:=B v;rw[C v hv]at A;clear C;generalize kK j.cf v u=b at *;cases b
   all_goals
    (refine yH (xU A B) ?_)
    rfl
  ·(refine WW ?_)
   rfl
 .exact ly
def Lj (j:Jn) (J:JV j) (p:Nat) (z:p<ln j.ph):zM 211 [xN (yG j p)] [] (bA true) []:=by
 have W:=J.rg p z;have V:=J.gp p z;obtain⟨Y,t2,t3,t4,t5,t6,t7,t8,t9,A,B,ac,u⟩:=J.ti p z;generalize yG j p=t at *;have C:=dW t.ring 0 1 W;have E:=dW t.group 0 3 V;have G:=dW t.ming 1 60 ⟨Y,zB⟩;have I:=dW t.maxg t.ming 60 ⟨zB,t3⟩;have L:=dW t.yel 1 60 ⟨t4,t5⟩;have M:=dW t.red 0 60 ⟨t6,t7⟩;have O:=dW t.walk 0 60 ⟨t8,t9⟩;have S:=dW t.clear 0 60 ⟨A,B⟩;by_cases U:t.walk=0
 .have h1:=u.1 U;clear u;refine eM call211 λF hF=>?_
  exact mt (tu C E G I L M O S)
 .have h1:¬t.clear=0:=λh=>U (u.2 h)
  clear u;refine eM call211 λF hF=>?_
  exact mt (tu C E G I L M O S)
def DI (j:Jn) (p i:Nat):Bool:=(yG j p).group==0||(pb i).any λq=>(yG j q).group==(yG j p).group-1
def Kj (j:Jn) (p i:Nat):DI j p (i+1)=(DI j p i||(yG j i).group==(yG j p).group-1):=by
 unfold DI;rw[zC6,List.any_append,zGs,List.any_nil,zGc,Bool.or_assoc]
def Ts (j:Jn) (J:JV j) (p:Nat) (u:p<ln j.ph):DI j p (ln j.ph)=true:=by
 unfold DI;have B:=J.gp p u;by_cases z:(yG j p).group=0
 .rw[z];rfl
 .obtain⟨q,A,e⟩:=J.lo p u ((yG j p).group-1) zB zB;rw[zDh];exact .inr (zCw.2 ⟨q,zBv.2 A,by rw[zCm];exact e⟩)
theorem DJ (j:Jn) (J:JV j):zM 155 [wK j] [] (bA true) []:=by
 have hl:=zA xN j.ph;have ag:=zA iA j.cf;have hn:=J.n;have hc:=J.c;have c1:=v7 j J;have c2:=dW j.st 0 60 J.st;refine eM call155 λF hF=>?_
 refine yH (xU c1 c2) ?_;refine zO (ln j.ph) [1] [1] [1,42,43] [44,1,42,43] Z (λi T U=>⟨(44,iA i)::T,U⟩) (Lq ?_ ?_)
 .intro u G;have Y:=zJ xN j.ph u G
  change (j.ph.map xN)[u]? =some (xN (yG j u))at Y
  have cp:=Lj j J u G;generalize yG j u=t at *;refine zU cp ?_;rfl
 .clear c1 c2;refine WW ?_;refine zO (ln j.ph) [1] [1] [1,53,54] [55,1,53,54] Z (λi T U=>⟨(55,iA i)::T,U⟩) (Lq ?_ ?_)
  .intro u G;have Y:=zJ xN j.ph u G
   change (j.ph.map xN)[u]? =some (xN (yG j u))at Y
   have C:=Ts j J u G;have hg:=J.gp u G;have A:DI j u 0=((yG j u).group==0):=by unfold DI;simp
   have E:=Kj j u;refine WW ?_;refine zO (ln j.ph) [1,7] [1,7] [1,6,7,53,54,55,61,62] [63,1,6,7,53,54,55,61,62] Z (λi T U=>⟨(63,iA i)::T,U⟩) (Lq ?_ ?_)
   .intro v hv;have B:=zJ xN j.ph v hv
    change (j.ph.map xN)[v]? =some (xN (yG j v))at B
    have M:=jA j.cf zB u v;have z:=J.ap u v G hv;clear E A C;by_cases I:u=v
    .have W:(u:Int)=v:=by omega
     clear z;generalize yG j u=a,yG j v=b at *;refine WW ?_;rfl
    have W:¬(u:Int)=v:=by omega
    by_cases h1:(yG j u).ring=(yG j v).ring
    .rw[z I (.inl h1)]at M;clear z;generalize yG j u=a,yG j v=b at *;refine zU M ?_;rfl
    by_cases h2:(yG j u).group=(yG j v).group
    .clear z;generalize yG j u=a,yG j v=b at *;refine WW ?_;rfl
    .rw[z I (.inr h2)]at M;clear z;generalize yG j u=a,yG j v=b at *;refine zU M ?_;rfl
   .have L:∀b:Bool,((yG j u).group==0)=b->b=DI j u 0:=λb h=>by rw[A,h]
    by_cases O:(yG j u).group=0
    .have S:DI j u 0=true:=by rw[A,zCm];exact O
     clear L;refine WW ?_;refine zO (ln j.ph) [1,7] [1,7] [1,7,53,54,55,98,99] [10,100,1,7,53,54,55,98,99] Z (λi T U=>⟨(10,bA (DI j u i))::(100,iA i)::T,U⟩) ?_;(conv=>whnf);refine⟨by(rw[S];rfl),?_,?_⟩
     .intro v hv;have B:=zJ xN j.ph v hv
      change (j.ph.map xN)[v]? =some (xN (yG j v))at B
      have e9:DI j u v=true:=by unfold DI;rw[O];rfl
      have V:DI j u (v+1)=true:=by unfold DI;rw[O];rfl
      rw[e9,V];generalize yG j u=a,yG j v=b at *;refine WW ?_;rfl
     .rw[C];refine WW ?_;rfl
    .have S:DI j u 0=false:=by rw[A,zB0];exact O
     clear L;refine WW ?_;refine zO (ln j.ph) [1,7] [1,7] [1,7,53,54,55,98,99] [10,100,1,7,53,54,55,98,99] Z (λi T U=>⟨(10,bA (DI j u i))::(100,iA i)::T,U⟩) ?_;(conv=>whnf);refine⟨by(rw[S];rfl),?_,?_⟩
     .intro v hv;have B:=zJ xN j.ph v hv
      change (j.ph.map xN)[v]? =some (xN (yG j v))at B
      have V:=E v;rw[V];have ac:=J.gp v hv;generalize DI j u v=bb at *;clear C E A;generalize yG j u=a,yG j v=b at *;cases bb
      .by_cases hq:b.group=a.group-1
       .rw[show(false||b.group==a.group-1)=true by rw[zDj,zCm];exact hq];refine WW ?_;rfl
       .rw[show(false||b.group==a.group-1)=false by rw[zDj,zB0];exact hq];refine WW ?_;rfl
      .rw[zDs];refine WW ?_;rfl
     .rw[C];refine WW ?_;rfl
  .exact ly
def Xz (c:Cf) (h:Hb c):zM 84 [wH c] [] (bA true) []:=by
 have hj:=h.j;have M:=h.a;have A:=zA wK c.js;have z:=zA uK c.ags;have C:=dW ((c.js.map wK).length:Int) 1 4 zB;have w2:=dW ((c.ags.map uK).length:Int) 1 4 zB;have E:=dW c.per 1 600 h.p;have G:=dW c.cap 0 100 h.cp;have I:=dW c.hold 1 60 h.h;have L:=dW c.lock 0 600 h.l;unfold wH zE;refine eM call84 λF hF=>?_
 refine yH (xU C w2) ?_;refine zO ((c.js.map wK).length) [1] [1] [1,20,21] [22,1,20,21] Z (λi T U=>⟨(22,iA i)::T,U⟩) (Lq ?_ ?_)
 .intro i hi;have B:=zJ wK c.js i zB;have u:=DJ _ (h.jv _ (yL c.js i zB));generalize c.js.getD i dd=j at *;refine zU u ?_;rfl
 ·(refine WW ?_)
  refine zO ((c.ags.map uK).length) [1] [1] [1,31,32] [33,1,31,32] Z (λi T U=>⟨(33,iA i)::T,U⟩) (Lq ?_ ?_)
  .intro i hi;have B:=zJ uK c.ags i zB;have u:=IQ (c.ags.getD i dd);rw[(Kv _).2 (h.av _ (yL c.ags i zB))]at u;generalize c.ags.getD i dd=a at *;refine zU u ?_;rfl
  .exact mt (cL E G I L)
def Jj (p:Ph) (h:dy p) (l:Li) (B: -1000000000000<=l.tk/\l.tk<=1000000000000) (z: -1000<=af p/\af p<=1000) (C: -1000<=p.yel/\p.yel<=1000) (A: -1000<=p.red/\p.red<=1000):zM 77 [xN p,xE l] [] (iA (Vr p l)) []:=by
 have c:=qf p h;unfold Vr;generalize af p=n at *;by_cases h1:l.lamp=1
 .rw[zA4 h1,Int.max_comm];refine eM call77 λF hF=>?_
  exact mx c
 rw[Os h1];by_cases h2:l.lamp=2
 .rw[zA4 h2];refine eM call77 λF hF=>?_
  exact ly
 rw[Os h2];by_cases u:l.lamp=3
 .rw[zA4 u];refine eM call77 λF hF=>?_
  exact ly
 .rw[Os u];refine eM call77 λF hF=>?_
  exact ly
def Ij (s:Sg) (i:Nat):List Int:=(pb i).map λp=>Kx (xT s.c p)
def Hj (j:Jn) (s:Sg) (i:Nat):List Int:=(pb i).map λp=>Vr (yG j p) (xT s.c p)
def Xe (f:Nat->Int) (n:Nat):(pb n).map f=ZA (λp _=>f p) (oj n 0) n:=by
 apply zCe;intro k;rw[vY,zC5,zBd];by_cases hk:k<n
 .rw[zA4 hk,zA4 hk,zC3 hk];rfl
 .rw[Os hk,zCi qB];rfl
theorem Mx (j:Jn) (J:JV j) (s:Sg) (C:CV j s.c) (v:Sv):zM 30 [wK j,wZ s,wU v] [] (vO (LQ j s v)) []:=by
 have k:=fw j J.n.2;have hl:=zA xN j.ph;have W:=J.n;have z:(s.c.li.map xE).length=ln j.ph:=by rw[zA5];exact C.n
 unfold LQ
 cases u:s.lat with
 |true=>
  rw[zA4 Z];unfold wZ wU;rw[u];unfold vO at *;refine eM call30 λF hF=>?_
  exact mx k
 | false=>
  rw[Os zBl];have e1:KV s (ln j.ph) (ln j.ph)=Ij s (ln j.ph):=(Xe _ _).symm;have I:EQ j s (ln j.ph) (ln j.ph)=Hj j s (ln j.ph):=(Xe _ _).symm;rw[e1,I];have O:∀i,(Ij s (i+1)).map iA=(Ij s i).map iA++[iA (Kx (xT s.c i))]:=λi=>by simp[Ij,zC6]
  have S:∀i,(Hj j s (i+1)).map iA=(Hj j s i).map iA++[iA (Vr (yG j i) (xT s.c i))]:=λi=>by simp[Hj,zC6]
  have L:∀i,((Ij s i).map iA).length=i:=λi=>by simp[Ij]
  have M:∀i,((Hj j s i).map iA).length=i:=λi=>by simp[Hj]
  unfold wK wZ wU zE at *;rw[u];refine eM call30 λF hF=>?_
  refine WW ?_;refine zS 8 1021 1 Z Z Z ?_;refine zS 9 1022 1 Z Z Z ?_;refine zO ((s.c.li.map xE).length) [1021,1022,3,6,7] [3,6,7] [3,6,7,24,25] [8,9,26,3,6,7,24,25] Z (λi T U=>⟨(8,.ref 1021 0 ((Ij s i).map iA).length)::(9,.ref 1022 0 ((Hj j s i).map iA).length)::(26,iA i)::T,(1021,.arr 1 ((Ij s i).map iA) true)::(1022,.arr 1 ((Hj j s i).map iA) true)::U⟩) (Lq ?_ ?_)
  .intro i hi;have hi':i<ln j.ph:=by omega
   have hy:(j.ph.map xN)[i]? =some (xN (yG j i)):=zJ xN j.ph i hi';have hz:(s.c.li.map xE)[i]? =some (xE (xT s.c i)):=zJ xE s.c.li i (by have:=C.n;omega);have Y:=J.ti i hi';have hv:=C.k i hi';have x1:=L i;have x2:=M i
   have E: -1000000000000<=(xT s.c i).tk/\(xT s.c i).tk<=1000000000000:=by
    unfold ib at hv
    repeat' split at hv
    all_goals (first|(rw[zBb]at hv;omega)|cases hv)
   have G:=Jj (yG j i) ⟨zB,zB,zB,zB⟩ (xT s.c i) E (by unfold af;omega) zB zB;rw[O,S];clear O S L M k e1 I;generalize Vr (yG j i) (xT s.c i)=V,(Ij s i).map iA=A,(Hj j s i).map iA=B at *;generalize yG j i=p at *;unfold Kx;generalize xT s.c i=l at *;by_cases h1:l.lamp=1
   .rw[zA4 (.inl h1)];refine zU G ?_;rfl
   by_cases h2:l.lamp=2
   .rw[zA4 (.inr h2)];refine zU G ?_;rfl
   .rw[Os (λh=>h.elim h1 h2)];refine zU G ?_;rfl
  ·(refine WW ?_)
   refine zI [] Z Z ?_ Z
   show AV.agg [bA false,bA (v.ph != -1),.sl false (pi ((Ij s (s.c.li.map xE).length).map iA).length (py 0 ((Ij s (s.c.li.map xE).length).map iA))),.sl false (pi ((Hj j s (s.c.li.map xE).length).map iA).length (py 0 ((Hj j s (s.c.li.map xE).length).map iA)))]=_
   rw[zBr,zA8,zBr,zA8,z];rfl
theorem Rs (c:Cf) (h:Hb c):zM 34 [wH c] [] (qO (UF c)) []:=by
 have E:=Xz c h;have hj:=h.j;have ha:=h.a;have B:=zA wK c.js;have A:=zA uK c.ags;have z:∀i,((LW c i).map zN).length=i:=λi=>by simp[LW]
 have u:qO (UF c)= .agg [zE wK c.js,zE uK c.ags,iA c.per,iA c.cap,iA c.hold,iA c.lock,bA false,iA 0,zE zN (LW c (ln c.ags)),zE wZ (c.js.map fQ),zE wU (c.js.map HM),zE iA (c.js.map λ_=> -1),zE vO (c.js.map λj=>LQ j (fQ j) (HM j))]:=rfl;rw[u];unfold wH zE at *;refine eM call34 λF hF=>?_
 refine zU E ?_;refine zS 7 1011 17 Z Z Z ?_;refine zO ((c.ags.map uK).length) [1011,1,2,3] [1,2,3] [1,2,3,4,40,41] [7,42,1,2,3,4,40,41] Z (λi T U=>⟨(7,.ref 1011 0 ((LW c i).map zN).length)::(42,iA i)::T,(1011,.arr 17 ((LW c i).map zN) true)::U⟩) (Lq ?_ ?_)
 .intro i hi;have O:=zJ uK c.ags i zB;have V:=(Z8 (i:Int) _ (h.av _ (yL c.ags i zB))).2;have e:(LW c (i+1)).map zN=(LW c i).map zN++[zN (PE (i:Int) (c.ags.getD i dd) (c.ags.getD i dd).ses.toNat)]:=by unfold LW;rw[zC6,zBc,zBc];rfl
  have z:=z i;rw[e];clear E u e;generalize PE (i:Int) (c.ags.getD i dd) (c.ags.getD i dd).ses.toNat=dk at *;generalize c.ags.getD i dd=a at *;generalize (LW c i).map zN=X at *;unfold zN xD at*
  (have ga:=V;(repeat' (first|refine jX ?_|apply yW|apply xG|intro hc|(apply zG;first|(apply yI;refine vE tok Z Z ?_))|refine SB ?_|fail))<;>clear ga)
  rfl
 ·(refine WW ?_)
  refine zS 10 1012 5 Z Z Z ?_;refine zS 11 1013 3 Z Z Z ?_;refine zS 12 1014 1 Z Z Z ?_;refine zS 4 1015 4 Z Z Z ?_;rw[A];refine zO ((c.js.map wK).length) [1012,1013,1014,1015,2,3,1011] [2,3,1011] [2,3,7,55,56] [4,10,11,12,57,2,3,7,55,56] Z (λi T U=>⟨(4,.ref 1015 0 (((c.js.take i).map λj=>LQ j (fQ j) (HM j)).map vO).length)::(10,.ref 1012 0 (((c.js.take i).map fQ).map wZ).length)::(11,.ref 1013 0 (((c.js.take i).map HM).map wU).length)::(12,.ref 1014 0 ((c.js.take i).map λ_=>iA (-1)).length)::(57,iA i)::T,(1012,.arr 5 (((c.js.take i).map fQ).map wZ) true)::(1013,.arr 3 (((c.js.take i).map HM).map wU) true)::(1014,.arr 1 ((c.js.take i).map λ_=>iA (-1)) true)::(1015,.arr 4 (((c.js.take i).map λj=>LQ j (fQ j) (HM j)).map vO) true)::U⟩) (Lq ?_ ?_)
  .intro i hi;have hi':i<ln c.js:=by omega
   have O:=zJ wK c.js i hi';have J:=h.jv _ (yL c.js i hi')
   have G:c.js.take (i+1)=c.js.take i++[c.js.getD i dd]:=by
    rw[zBk,zB2 hi',zDz,zDx hi']
   have M:(c.js.take i).length<=4:=by rw[zBt];omega
   have S:=yf _ J;have I:=Nt (c.js.getD i dd).ph.length CG;have L:=Mx _ J (fQ (c.js.getD i dd)) (Al J) (HM (c.js.getD i dd));have C:((c.js.getD i dd).ph.map xN).length=(c.js.getD i dd).ph.length:=zA5 ..;rw[G];simp only[zBc,zCn,zCx];have m1:(((c.js.take i).map fQ).map wZ).length=(c.js.take i).length:=by simp
   have m2:(((c.js.take i).map HM).map wU).length=(c.js.take i).length:=by simp
   have m3:((c.js.take i).map λ_=>iA (-1)).length=(c.js.take i).length:=by simp
   have m4:(((c.js.take i).map λj=>LQ j (fQ j) (HM j)).map vO).length=(c.js.take i).length:=by simp
   clear E u G J;unfold HM at *;rw[<-C]at I L⊢;generalize Sh ((c.js.getD i dd).ph.map xN).length=sv,fQ (c.js.getD i dd)=W at *;generalize LQ (c.js.getD i dd) W sv=vw at *;generalize c.js.getD i dd=j,((c.js.take i).map fQ).map wZ=Y at *;generalize ((c.js.take i).map λj=>Sh (ln j.ph)).map wU=X2 at *;generalize (c.js.take i).map (λ_=>iA (-1))=X3,((c.js.take i).map λj=>LQ j (fQ j) (Sh (ln j.ph))).map vO=X4 at *;unfold wK zE wZ wU vO at*
   (have ga:=S;have ge:=I;have gn:=L;(repeat' (first|refine jX ?_|apply yW|apply xG|intro hc|(apply zG;first|(apply yI;refine vE tok Z Z ?_))|refine SB ?_|fail))<;>clear ga ge gn)
   rfl
  .rw[B,zA8];refine WW ?_;refine zI [] Z Z ?_ Z
   show AV.agg [.sl false (c.js.map wK),.sl false (c.ags.map uK),iA c.per,iA c.cap,iA c.hold,iA c.lock,bA false,iA 0,.sl false (pi ((LW c (ln c.ags)).map zN).length (py 0 ((LW c (ln c.ags)).map zN))),.sl false (pi ((c.js.map fQ).map wZ).length (py 0 ((c.js.map fQ).map wZ))),.sl false (pi ((c.js.map HM).map wU).length (py 0 ((c.js.map HM).map wU))),.sl false (pi (c.js.map λ_=>iA (-1)).length (py 0 (c.js.map λ_=>iA (-1)))),.sl false (pi ((c.js.map λj=>LQ j (fQ j) (HM j)).map vO).length (py 0 ((c.js.map λj=>LQ j (fQ j) (HM j)).map vO)))]=_
   rw[zBr,zA8,zBr,zA8,zBr,zA8,zBr,zA8,zBr,zA8,show(c.js.map λ_=>iA (-1))=(c.js.map λ_=>(-1:Int)).map iA by rw[zGu];rfl]
