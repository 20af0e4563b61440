/- Part 28. -/
import Derived.Test.YtaglbcjljlkjcaaGreatU27
namespace Go.Proofs.YtaglbcjljlkjcaaGreat.Av
open Tryz
set_option linter.all false
set_option maxRecDepth 4000
set_option maxHeartbeats 8000000
open List renaming length->ln,replicate->pi,range->py,take->p5,drop->qd
open Inhabited renaming default->dd
variable {c:Cf}{y:Cy}{f4:Int}{ins:List In}{R:Nat->DR}
section
variable {P:Program} {K0:List Nat} {F:Fr K0} {m:Nat} {ops:Array Oper} {rest:List Oper} {fs:List FP} {tm:List (Nat×AV)} {h:List (Nat×xW)}
def Zb {Q:List FP->St->Prop} (t K sz:Nat) (hv:zK tm t= .s (.slice none 0 0)) (u:(zD h K).isNone=true) (z:Nat.ble 1 sz=true) (h1:yN P F m ops false rest ⟨(t,.ref K 0 0)::tm,(K,.arr sz [] true)::h⟩ fs Q):yN P F m ops false rest ⟨tm,h⟩ fs Q:=
 ⟨λa w R=>h1.run a w (wK.virt R t K sz hv u z)⟩
end
def Ey (m:Ms) (h:YP m):zN 122 [zX m] [] (bA false) []:=by
 obtain⟨k,A,u,z⟩:=m;obtain⟨h1,h2⟩:=h;dsimp only at h1 h2;subst h1;have c:=kz h2;rw[show zX ⟨k,[],u,z⟩= .agg [iA k,zE yA [],zE iA u,zE yA z]from Z]at *; refine eM call122 λF hF=>?_
 exact nl c
def i6 (l:List Ms) (z:ln l<=1000000) (h:∀m∈l,YP m):zN 184 [zE zX l,.fn 122 []] [] (iA (-1)) []:=by
 have hl:=zA zX l;refine eM call184 λF hF=>?_
 refine WW ?_;refine zU (l) [] [] [0,1,7] [8,0,1,7] Z (λi ga T U=>⟨(8,iA i)::T,U⟩) (Lq ?_ ?_)
 .intro i ga x post u hi;have B:=yJ zX u hi;have A:=zW u hi;have c:=Ey x (h x (xA u));clear u;refine zS c ?_;rfl
 .exact mx
def Ay (l:List Ms) (u:ln l<=1000000) (h:∀m∈l,YP m):zN 121 [zE zX l,.fn 122 []] [] (zE zX l) []:=by
 have c:=i6 l u h;have hl:=zA zX l;refine eM call121 λF hF=>?_
 exact nl c
def EW (l:List Ms) (u:ln l<=1000000) (h:∀m∈l,YP m):zN 51 [zE zX l] [] (zE zX l) []:=by
 have c:=Ay l u h;have hl:=zA zX l;refine eM call51 λF hF=>?_
 exact nl c
def Xj (y:Int):0<=fU y/\fU y<256:=by
 unfold fU;have e:IntKind.u8.wrap y=y % 256:=by simp[IntKind.wrap,IntKind.signed,IntKind.bits]
 rw[e];omega
def Wj {l:List Vw} (h:∀v∈l,ma v):BY (XS l):=λx u=>by
 unfold XS at u;obtain⟨y,z,u⟩:=zEy.1 u;obtain⟨v,hv,rfl⟩:=zCb.1 z;have hb:=h v hv;have hc:=OJ hb.c (ln v.co) (zAy _) hb.n;have A:=fV (ln v.co) hb.n;have B:=R4 (n:=vJ v.co (ln v.co)) hc.1 zB;unfold l9 at u;simp only[zD8,zD3,zCh,zCb]at u
 rcases u with rfl|rfl|rfl|⟨y,_,rfl⟩
 .unfold EA
  split<;>split<;>omega
 .omega
 all_goals exact Xj _
def zz (l:List Rq) (v:List Vw) (f4:Int) (n:Nat):BY (TX l v f4 n):=λx u=>by
 unfold TX at u;obtain⟨i,_,rfl⟩:=zCb.1 u;unfold Jd;split
 .have:=Ld ((l.getD (i/3) dd).legs.getD (i % 3) dd) v f4;omega
 .omega
theorem px (d:wC) (B:0<=d.rg.ag.req/\d.rg.ag.req<=4) (v:List Vw) (f4:Int) (C:0<=f4) (E:f4<=1073741824) (A:ln v<=4) (hb:∀w∈v,ma w):YP (KS d v f4):=by
 have h1:=cY hb;have h2:=dP [f4];have z:(TX d.rq v f4 (d.rg.ag.req.toNat*3)).length=d.rg.ag.req.toNat*3:=by simp[TX]
 refine⟨rfl,by dsimp only[KS,Cv];omega,.cons zB .nil,by simp[KS,Cv],?_,.inl Z,.inl ⟨rfl,rfl⟩,?_⟩
 .intro x u
  rcases zBe.1 u with u|u
  .exact Wj hb x u
  .exact zz _ _ _ _ x u
 .show(([f4].map jT).flatten).length+1+(XS v++TX d.rq v f4 (d.rg.ag.req.toNat*3)).length<=200
  grind
def QI (f4:Int) (v:List Vw):Ms:=⟨21,[],[f4],XS v⟩
theorem yz (v:List Vw) (f4:Int) (z:0<=f4) (A:f4<=1073741824) (u:ln v<=4) (hb:∀w∈v,ma w):YP (QI f4 v):=by
 have h1:=cY hb;have h2:=dP [f4];refine⟨rfl,by dsimp only[QI];omega,.cons zB .nil,by simp[QI],Wj hb,.inl Z,.inl ⟨rfl,rfl⟩,?_⟩
 grind [YP,QI]
def xz (f4:Int) (v:List Vw) (u:ln v<=1000) (hb:∀w∈v,ma w):zN 52 [iA f4,zE vG v] [] (zX (QI f4 v)) []:=by
 have B:=Dp v u hb;have A:=zA yA (XS v);refine eM call52 λF hF=>?_
 refine zS B ?_;refine zI [] Z Z ?_ Z;exact zBd (λz=>AV.agg [iA 21,AV.sl false [],AV.sl false [iA f4],AV.sl false z]) zAv
def fH (e:En):List Int:=[e.ag,e.ki,e.co]
def xj (f4:Int) (u:List En):Ms:=⟨18,[],f4::((u.take 16).map fH).flatten,[]⟩
theorem Z6 (f4:Int) (S:0<=f4) (U:f4<=1073741824) (A:List En) (h:∀e∈A,Ij e):YP (xj f4 A):=by
 have hl:(A.take 16).length<=16:=by rw[zBi];omega
 have B:∀e∈A.take 16,Ij e:=λe u=>h e (zCr u)
 unfold xj;generalize A.take 16=l at*
 have E:((l.map fH).flatten).length=3*ln l:=by
  clear B hl
  induction l with
  |nil=>rfl
  |cons e l C=>rw[zCc,zDq,zAx,C,zA8];show 3+_=_;omega
 have O:((((l.map fH).flatten).map jT).flatten).length<=4*ln l:=by
  clear E hl
  induction l with
  |nil=>simp
  |cons e l C=>
   have C:=C λx z=>B x (by simp[z])
   have u:=B e zV;have e1:=DD (n:=e.ag) (by have:=u.a;omega);have L:=S6 (n:=e.ki) (by have:=u.k;omega);have e3:=DD (n:=e.co) (by have:=u.c;omega);rw[zCc,zDq,zA0,zEe,zAx,zA8]
   grind [YP,xj,fH]
 have I:=(gE f4).2;refine⟨rfl,by dsimp only;omega,?_,by dsimp only;rw[zA8];omega,λx z=>(by cases z),.inr Z,.inr ⟨.inr Z,(ln l:Int),?_,zB,by show(0:Int)<=_;omega,by show _<=(16:Int);omega⟩,?_⟩
 .refine .cons zB ?_;intro x z;obtain⟨y,G,z⟩:=zEy.1 z;obtain⟨e,u,rfl⟩:=zCb.1 G;have hk:=B e u;have h1:=hk.a;have h2:=hk.k;have M:=hk.c
  grind [YP,xj,fH]
 .show((f4::(l.map fH).flatten).length:Int)=1+3*(ln l:Int)
  grind
 all_goals grind
def Og (d:wC) (z:List Vw) (f4:Int) (k:Nat) (R:List (List Ms)) (u:List En):List Ms:=(R.getD k []++[KS d z f4])++(if d.au.getD k dd=true then [xj f4 u]else [])
theorem ox (d:wC) (B:0<=d.rg.ag.req/\d.rg.ag.req<=4) (v:List Vw) (f4:Int) (C:0<=f4) (E:f4<=1073741824) (A:ln v<=4) (hb:∀w∈v,ma w) (k:Nat) (R:List (List Ms)) (z:∀l∈R,ln l<=1000/\∀m∈l,YP m) (hk:k<ln R) (u:List En) (h:∀e∈u,Ij e):(Og d v f4 k R u).length<=1002/\∀m∈Og d v f4 k R u,YP m:=by grind [YP,Og,List.getElem?_eq_getElem,List.getElem_mem,List.length_append,List.length_cons,List.length_nil,List.mem_singleton,px,Z6]
theorem X9 (u:List En):u.take (min ((u.map kF).length:Int) 16).toNat=u.take 16:=by grind [kF,List.length_map,List.take_of_length_le]
theorem Zs (y:Cy) (n0:0<=y.f4) (n1:y.f4<=1073741824) (a k s:Nat) (ha:a<ln y.ds) (hd:dN (y.ds.getD a dd)) (Y:0<=(y.ds.getD a dd).rg.ag.req/\(y.ds.getD a dd).rg.ag.req<=4) (hn:ln y.vw<=4) (hb:∀w∈y.vw,ma w) (hk:k<(y.ds.getD a dd).au.length)
  (R:List (List Ms)) (S:∀l∈R,ln l<=1000/\∀m∈l,YP m) (A:k<ln R) (u:List En) (he:∀e∈u,Ij e) (ac:ln u<=100000):
  zN 50 [qA y,nk a k s,zE jI R,zE kF u] [] (zE zX (Og (y.ds.getD a dd) y.vw y.f4 k R u)) []:=by
 have ht:=ox _ Y y.vw y.f4 n0 n1 hn hb k R S A u he;have z:=EW (Og (y.ds.getD a dd) y.vw y.f4 k R u) zB ht.2;have C:=wq (y.ds.getD a dd) hd Y y.vw y.f4 zB hb;have M:=zJ zM y.ds a ha;have B:=zJ jI R k A;have a2:=zJ bA (y.ds.getD a dd).au k hk;have ax:=zA jI R;have ap:=zA kF u;have ar:=zA bA (y.ds.getD a dd).au;have I:=(S _ (yK R k A)).1;have eR:R.getD k dd=R.getD k []:=rfl;unfold qA aF;unfold Og at z⊢;rw[eR]at B I;generalize KS (y.ds.getD a dd) y.vw y.f4=st,R.getD k []=E at *;have av:=zA zX E;unfold jI zE at B;generalize y.ds.getD a dd=d at *;unfold zM xD at M C;refine eM call50 λF hF=>?_
 refine zS C ?_;refine Zb 25 1001 4 Z Z Z ?_;generalize d.au.getD k dd=b at *;cases b
 .have e1:zE zX ((E++[st])++if false=true then [xj y.f4 u]else [])= .sl false (E.map zX++[zX st]):=by
   rw[Os zA9,zBo];unfold zE;rw[zA0];rfl
  rw[e1]at z⊢
  (have gd:=C;(repeat' (first|refine uS ?_|apply yW|apply xH|intro hc|(apply zG;first|refine SM ?_)|fail))<;>clear gd)
  (refine vH 51 ?_;refine vV [] [85] Z ?_;(conv=>whnf);(try simp only[zBf,zAv]);first|refine wM (zL (z) Z Z Z Z Z) Z ?_|refine uT (zL (z) Z Z Z Z Z) Z Z Z ?_|refine aI (zL (z) Z Z Z Z Z) Z Z Z ?_)
  (repeat' (first|refine uS ?_|apply yW|apply xH|intro hc|(apply zG;first|refine SM ?_)|fail))
  exact zH
 .have e1:zE zX ((E++[st])++if true=true then [xj y.f4 u]else [])= .sl false ((E.map zX++[zX st])++[zX (xj y.f4 u)]):=by
   rw[zAs Z];unfold zE;rw[zA0,zA0];rfl
  rw[e1]at z⊢
  (have gd:=C;(repeat' (first|refine uS ?_|apply yW|apply xH|intro hc|(apply zG;first|refine SM ?_)|fail))<;>clear gd)
  rw[X9];have V:(u.take 16).length<=16:=by rw[zBi];omega
  have W:=zA kF (u.take 16);rw[show zX (xj y.f4 u)= .agg [iA 18,.sl false [],.sl false ((y.f4::((u.take 16).map fH).flatten).map iA),.sl false []]from Z]at *; generalize u.take 16=O at *;refine vP 57 Z ?_;refine zU (O) [11,57,1001] [1001] [10,11,63,64] [65,10,11,63,64] Z (λi ga T U=>⟨(65,iA i)::T,(11,.box [iA 18,.s (.slice none 0 0),.ref 57 0 ((y.f4::(ga.map fH).flatten).map iA).length,.s (.slice none 0 0)])::(57,.arr 1 ((y.f4::(ga.map fH).flatten).map iA) true)::U⟩) (Lq ?_ ?_)
  .intro i ga x post G hi;have hy:=yJ kF G hi;have az:=zW G hi
   have a1:((ga.map fH).flatten).length=3*ln ga:=by
    clear G hi hy
    induction ga with
    |nil=>rfl
    |cons e l ih=>rw[zCc,zDq,zAx,ih,zA8];show 3+_=_;omega
   have L:=zA iA (y.f4::(ga.map fH).flatten);rw[zA8]at L;rw[zA0,zEe];rw[show(y.f4::((ga.map fH).flatten++([x].map fH).flatten)).map iA=(y.f4::(ga.map fH).flatten).map iA++[iA x.ag,iA x.ki,iA x.co] by simp[fH]];unfold kF OK at hy;clear G z C e1;generalize (y.f4::(ga.map fH).flatten).map iA=X at *;refine WW ?_;rfl
  .refine wJ [11,1001] [10,11,63,64,65] Z ?_
   (conv=>whnf)
   simp only[zBf,zAv]
   (repeat' (first|refine jZ ?_|apply yW|apply xH|intro hc|(apply zG;first|(apply yH;refine ZX 82 Z Z Z ?_;refine vD tok Z Z ?_))|refine SB ?_|fail))
   (refine vH 51 ?_;refine vV [] [85] Z ?_;(conv=>whnf);(try simp only[zBf,zAv]);first|refine wM (zL (z) Z Z Z Z Z) Z ?_|refine uT (zL (z) Z Z Z Z Z) Z Z Z ?_|refine aI (zL (z) Z Z Z Z Z) Z Z Z ?_)
   (repeat' (first|refine uS ?_|apply yW|apply xH|intro hc|(apply zG;first|refine SM ?_)|fail))
   exact zH
structure LR (y:Cy):Prop where
 v:Qb y.c
 rf:y.rf=false
 n0:0<=y.f4
 dl:y.ds.length=y.c.ags.length
 di:∀d∈y.ds,qD y.c d
 dg:∀a,a<y.ds.length->(y.ds.getD a default).rg.ag=y.c.ags.getD a default
 sc:∀d∈y.ds,KV y.f4 d.rq
 gl:y.sg.length=y.c.js.length
 sl:y.sv.length=y.c.js.length
 tl:y.st.length=y.c.js.length
 wl:y.vw.length=y.c.js.length
 wb:∀w∈y.vw,ma w
 j:∀k,k<y.c.js.length->JI (y.c.js.getD k default) (y.sg.getD k default) (y.sv.getD k default) y.f4
def EX {α:Type} [Inhabited α] {l:List α} {x:α} (h:x∈l):∃i,i<ln l/\l.getD i dd=x:=by
 obtain⟨i,hi,e⟩:=List.mem_iff_getElem.1 h;exact⟨i,hi,by rw[zA5,zBq hi];exact e⟩
theorem LR.b (h:LR y):Q6 y:=by
 have M:=h.v.a;have hj:=h.v.j;have h1:=h.dl;have h2:=h.gl;have E:=h.sl;have G:=h.tl;have I:=h.wl;refine⟨zB,λd hd=>(h.di d hd).bd,zB,λs u=>?_,zB,λs u=>?_,zB,zB,λw B=>?_⟩
 .obtain⟨i,hi,rfl⟩:=EX u;have J:=h.v.jv _ (yK y.c.js i zB);have C:=(h.j i zB).c;have z:=J.n;have A:=C.n;have L:=C.m;omega
 .obtain⟨i,hi,rfl⟩:=EX u;have J:=h.v.jv _ (yK y.c.js i zB);have z:=J.n;have A:=(h.j i zB).n;omega
 .have:=h.wb w B;have z:=this.n;have A:=this.m;omega
def cM (c:Cf) (z:List Sg) (u:List Int):List Sg:=u.foldl (λs x=>s.set x.toNat (Kr (c.js.getD x.toNat dd) (s.getD x.toNat dd))) z
theorem EY (c:Cf) (z:List Sg) (u:List Int) (x:Int):cM c z (u++[x])=(cM c z u).set x.toNat (Kr (c.js.getD x.toNat dd) ((cM c z u).getD x.toNat dd)):=by grind [cM,Kr]
theorem KT {α:Type} [Inhabited α] (l:List α) (i j:Nat) (x:α) (hj:j<ln l):(l.set i x).getD j dd=if i=j then x else l.getD j dd:=by grind
theorem OP (hv:Qb c) {sv:List Sv} :∀(z:List Int) (u:List Sg),ln u=ln c.js->(∀k,k<ln c.js->JI (c.js.getD k dd) (u.getD k dd) (sv.getD k dd) f4)->(cM c u z).length=ln c.js/\∀k,k<ln c.js->JI (c.js.getD k dd) ((cM c u z).getD k dd) (sv.getD k dd) f4
 | [],u,hl,h=>⟨hl,h⟩
 |x::z,u,hl,h=>by
  have e:cM c u (x::z)=cM c (u.set x.toNat (Kr (c.js.getD x.toNat dd) (u.getD x.toNat dd))) z:=rfl;rw[e];refine OP hv z _ (by rw[zB9];exact hl) λk hk=>?_
  rw[KT _ _ _ _ zB];split
  .rename_i A;rw[A];have H:=h k hk;exact⟨G9 (hv.jv _ (yK c.js k hk)) H.c,H.n,H.e,H.g⟩
  .exact h k hk
theorem ue (D:Nat->Sg×Sv) (l:List Sg) (n k:Nat) (h1:k<n) (h2:k<ln l):(ZH D l n).getD k dd=(D k).1:=by grind [ZH,vS]
theorem qe (D:Nat->Sg×Sv) (l:List Sv) (n k:Nat) (h1:k<n) (h2:k<ln l):(ZI D l n).getD k dd=(D k).2:=by grind [ZI,vS]
def KU (u:List Jn) (D:Nat->Sg×Sv) (n:Nat):List Vw:=(py n).map λk=>XL (u.getD k dd) (D k).1 (D k).2
theorem Ys (u:List Jn) (D:Nat->Sg×Sv) (n:Nat):Gg u D n n=(KU u D n).map vG:=by simp_all [Gg,KU,vG]
def eJ (y:Cy) (R:Nat->DR):Nat->Sg×Sv:=ZG y.c (cM y.c y.sg (eO R (ln y.ds))) y.sv y.st (eK (y.f4+1) y.ds R (ln y.ds)) (y.f4+1)
def qW (y:Cy) (R:Nat->DR):Cy:=
 ⟨y.c,false,y.f4+1,eK (y.f4+1) y.ds R (ln y.ds),ZH (eJ y R) (cM y.c y.sg (eO R (ln y.ds))) (ln y.c.js),ZI (eJ y R) y.sv (ln y.c.js),XW y.st (ln y.c.js),KU y.c.js (eJ y R) (ln y.c.js)⟩
def Vj (y:Cy) (ins:List In) (R:Nat->DR):Prop:=∀a,a<ln y.ds->w9 y.c (y.f4+1) (XT (y.ds.getD a dd) (y.f4+1)) (wj y.c ins a) (R a)/\zN 115 [wH y.c,zM (XT (y.ds.getD a dd) (y.f4+1)),zE uZ (wj y.c ins a),iA (y.f4+1)] [] (Gj (R a)) []/\∀m k,wj y.c ins a=m++pi k dd->zN 56 [wH y.c,zM (XT (y.ds.getD a dd) (y.f4+1)),zE uZ m,iA (y.f4+1)] [] (Gj (R a)) []
theorem aE {u:List wC} {a:Nat} (z:a<ln u):(eK f4 u R (ln u)).getD a dd=(R a).d:=by grind [eK]
def fX (f4:Int) (u:List wC) (R:Nat->DR):(eK f4 u R (ln u)).length=ln u:=by simp[eK]
theorem YO {u:List wC} {d:wC} (h:d∈eK f4 u R (ln u)):∃a,a<ln u/\d=(R a).d:=by grind [eK]
def Yb (l:List Rq) (f4:Int):WK l (KO l f4):=WK.filter _ _
noncomputable def Ka (y:Cy) (ins:List In) (a:Nat):DR:=ZF y.c (XT (y.ds.getD a dd) (y.f4+1)) (wj y.c ins a) (y.f4+1)
def rx (h:LR y) (I:y.f4<1000000000) (z:∀i∈ins,Ja i):Vj y ins (Ka y ins):=λa B=>by
 have A:=h.di _ (yK y.ds a B);obtain⟨C,G,_⟩:=G7 A (y.f4+1);have u:=A.au;rw[h.dg a B]at u;have L:=(h.v.av _ (yK y.c.ags a (by have:=h.dl;omega))).e;have M:=h.n0
 exact Jg y.c _ C (wj y.c ins a) (by unfold wj Wb;rw[zAt,zCd];show _=(y.ds.getD a dd).au.length;omega) (λi hi=>by
  unfold wj Wb at hi;obtain⟨k,_,rfl⟩:=zCb.1 hi;by_cases hk:(jJ y.c.ags a).toNat+k<ln ins
  .exact z _ (yK ins _ hk)
  .rw[zA5,zB6 zB]
   exact⟨zBb _,λx E=>by cases E⟩) (y.f4+1) zB zB
theorem EZ (h:LR y) (A:Vj y ins R):LR (qW y R):=by
 have L:=h.n0;have E:=OP h.v (sv:=y.sv) (f4:=y.f4) (eO R (ln y.ds)) y.sg h.gl h.j
 have I:∀k,k<ln y.c.js->JI (y.c.js.getD k dd) (eJ y R k).1 (eJ y R k).2 (y.f4+1):=λk hk=>by
  have J:=h.v.jv _ (yK y.c.js k hk);have H:=E.2 k hk;exact R9 J zB ⟨H.c,H.n,λe C=>by have:=H.e e C;omega,H.g⟩ _ _ _
 have G:=h.sl;refine⟨h.v,rfl,by show 0<=y.f4+1;omega,(fX ..).trans h.dl,λd hd=>?_,λa z=>?_,λd hd=>?_,?_,?_,?_,?_,λw B=>?_,λk hk=>?_⟩
 .obtain⟨a,z,rfl⟩:=YO hd;exact(A a z).1.i
 .have u:a<ln y.ds:=by rw[<-fX (y.f4+1) y.ds R];exact z
  show((eK (y.f4+1) y.ds R (ln y.ds)).getD a dd).rg.ag=_
  rw[aE u,(A a u).1.ag];exact h.dg a u
 .obtain⟨a,z,rfl⟩:=YO hd;refine(A a z).1.sc ?_;exact KV.of zB ((h.sc _ (yK y.ds a z)).mono zB) (Yb _ _)
 .grind [Vj,qW,ZH,wT]
 .grind [Vj,qW,ZI,wT]
 .show(XW _ _).length=_
  unfold XW;rw[wT];exact h.tl
 .grind [Vj,qW,KU]
 .unfold qW KU at B;obtain⟨k,hk,rfl⟩:=zCb.1 B;exact uk _ (h.v.jv _ (yK y.c.js k (zBj.1 hk))) _ _
 all_goals grind [Vj,qW,ZH,eJ,cM,eO,ZI,ue,qe]
def Xb (y:Cy) (ins:List In) (R:Nat->DR) (n a k:Nat):List Ms:=if(ins.getD ((jJ y.c.ags a).toNat+k) dd).opn=true then Og (y.ds.getD a dd) y.vw y.f4 k (R a).R (XV R n)else []
def OQ (T:Nat->Nat->List Ms) (a k:Nat):List (List Ms):=(py k).map (T a)
def SI (c:Cf) (T:Nat->Nat->List Ms) (n:Nat):List (List Ms):=((py n).map λa=>OQ T a (c.ags.getD a dd).ses.toNat).flatten
def Y6 (T:List (List Ms)) (f:Ms):AV:= .agg [zE jI T,zE zX [f]]
def DA (T:Nat->Nat->List Ms) (a k:Nat):OQ T a (k+1)=OQ T a k++[T a k]:=by simp[OQ,zCt]
def VY (c:Cf) (T:Nat->Nat->List Ms) (n:Nat):SI c T (n+1)=SI c T n++OQ T n (c.ags.getD n dd).ses.toNat:=by simp[SI,zCt]
theorem VZ (u:LX c.ags) (T:Nat->Nat->List Ms):∀n,n<=ln c.ags->((SI c T n).length:Int)=jJ c.ags n
 |0,_=>rfl
 |n+1,z=>by
  have A:=VZ u T n zB;have:=u.at (i:=n) zB;rw[VY,zAx]
  show _=jJ c.ags n+(c.ags.getD n dd).ses
  have:(OQ T n (c.ags.getD n dd).ses.toNat).length=(c.ags.getD n dd).ses.toNat:=by simp[OQ]
  omega
theorem je (z:LX c.ags) (T:Nat->Nat->List Ms):∀n,n<=ln c.ags->∀s,s<(SI c T n).length->∃a k:Nat,a<n/\(k:Int)<(c.ags.getD a dd).ses/\s=(jJ c.ags a).toNat+k/\(SI c T n).getD s []=T a k
 |0,_,s,u=>by cases u
 | n+1,C,s,u=>by
  have hl:=VZ z T n zB;rw[VY]at u⊢;by_cases h:s<(SI c T n).length
  .obtain⟨a,k,h1,h2,A,B⟩:=je z T n zB s h;refine⟨a,k,zB,h2,A,?_⟩;rw[zA5,zBw h,<-zA5];exact B
  .rw[zAx]at u;have E:(OQ T n (c.ags.getD n dd).ses.toNat).length=(c.ags.getD n dd).ses.toNat:=by simp[OQ]
   refine⟨n,s-(SI c T n).length,zB,zB,zB,?_⟩;rw[zA5,zBy zB];unfold OQ;rw[zA1,zCn zB];rfl
theorem fe {n:Nat} {x:Int} (h:x∈eO R n):∃a,a<n/\x∈(R a).ks:=by grind [eO]
theorem IX {n:Nat} {x:En} (h:x∈XV R n):∃a,a<n/\x∈(R a).en:=by grind [XV]
def L5 (T:List (List Ms)) (f:Ms):AV:= .agg [.ref 1051 0 (T.map jI).length,zE zX [f]]
def K5 (T:List (List Ms)):List (Nat×xW):=[(1051,.arr 1 (T.map jI) true)]
theorem ee (y:Cy) (h:LR y) (hn:y.f4<1000000000) (ins:List In) (bx:(ln ins:Int)<=jJ y.c.ags (ln y.c.ags)) (R:Nat->DR) (L:Vj y ins R) (a5:∀i,(R i).en.length<=2000) (a7:∀i,(R i).ks.length<=2000):
  zN 12 [qA y,zE uZ ins] [] (.tup [qA (qW y R),L5 (SI y.c (Xb (qW y R) ins R (ln y.ds)) (ln y.c.ags)) (QI (y.f4+1) (qW y R).vw)]) (K5 (SI y.c (Xb (qW y R) ins R (ln y.ds)) (ln y.c.ags))):=by
 have hb:=h.b;have n0:=h.n0;have hw:=h.v.ag;have k1:=OV y hb;have cc:=h.dl;have k2:=Hg y.c hw (y.f4+1) zB zB y.ds h.dl (λi hi=>h.di _ (yK y.ds i hi)) ins bx R a5 a7 (λa E=>(L a E).2.1) (y.sg.map wU) (y.sv.map wP) (y.st.map iA) (y.sg.map wU).length (y.sv.map wP).length (y.st.map iA).length y.vw;have cd:=zA uZ ins;have a8:min y.f4 1073741823+1=y.f4+1:=by omega
 have a9:=h.rf;have eC:qA y= .agg [zE wD y.c.js,zE uF y.c.ags,iA y.c.per,iA y.c.cap,iA y.c.hold,iA y.c.lock,bA false,iA y.f4,zE zM y.ds,zE wU y.sg,zE wP y.sv,zE iA y.st,zE vG y.vw]:=by rw[<-a9];rfl
 unfold LV LW aF at k1;rw[eC,a9]at k1;unfold aF at k2;rw[eC];refine eM call12 λF hF=>?_
 refine zS k1 ?_;rw[a8];refine zS k2 ?_;refine wJ [2,3,4,5,6,7,1012,1013,1014] [2,3,4,5,6,7,34,35,36] Z ?_
 (conv=>whnf)
 have a4:(y.ds.map zM).length=((eK (y.f4+1) y.ds R (ln y.ds)).map zM).length:=by rw[zAt,zAt,fX]
 have bu:=zA wU y.sg;have b1:=zA wP y.sv;have b0:=zA iA y.st;have a6:=h.gl;have bb:=h.sl;have ba:=h.tl;simp only[zBf];rw[a4,zAv,bu,b1,b0,a6,bb,ba];clear k1 k2
 have ac:∀x∈eO R (ln y.ds),0<=x/\x<(ln y.c.js:Int):=λx S=>by
  obtain⟨a,E,S⟩:=fe S;exact(L a E).1.ks x S
 have cf:=UB a7 (ln y.ds);have b5:=h.v.a;have b7:(eO R (ln y.ds)).length<=10000:=by omega
 have ce:=zA wD y.c.js;have cg:=zA iA (eO R (ln y.ds));have eY:qW y R=⟨y.c,false,y.f4+1,eK (y.f4+1) y.ds R (ln y.ds),ZH (eJ y R) (cM y.c y.sg (eO R (ln y.ds))) (ln y.c.js),ZI (eJ y R) y.sv (ln y.c.js),XW y.st (ln y.c.js),KU y.c.js (eJ y R) (ln y.c.js)⟩:=rfl;refine zU ((eO R (ln y.ds))) [1012,2,3,4,5,6,7,1013,1014] [2,3,4,5,6,7,1013,1014] [2,3,4,5,6,7,34,35,86] [36,2,3,4,5,6,7,34,35,86] Z (λi ga T U=>⟨(36,iA i)::T,(1012,.arr 5 ((cM y.c y.sg ga).map wU) false)::U⟩) (Lq ?_ ?_)
 .intro i ga x post S hi;have hy:=yJ iA S hi;have ch:=zW S hi;have ap:=ac x (xA S);obtain⟨V,W⟩:=OP h.v (sv:=y.sv) (f4:=y.f4) ga y.sg h.gl h.j;have J:=h.v.jv _ (yK y.c.js x.toNat zB);have C:=(W x.toNat zB).c;have hJ:=J.n;have hC:=C.n;have hM:=C.m;have kr:=Hl (y.c.js.getD x.toNat dd) J ((cM y.c y.sg ga).getD x.toNat dd) zB zB;have cn:=yE wD y.c.js x ap.1 ap.2;have cm:=yE wU (cM y.c y.sg ga) x ap.1 zB;have b6:=zA wU (cM y.c y.sg ga);rw[EY,zCe];clear S ac eY L J C W;generalize (cM y.c y.sg ga).getD x.toNat dd=s,y.c.js.getD x.toNat dd=j at *;generalize cM y.c y.sg ga=X at *;generalize X.map wU=Y at *;refine zS kr ?_;rfl
 .obtain⟨V,W⟩:=OP h.v (sv:=y.sv) (f4:=y.f4) (eO R (ln y.ds)) y.sg h.gl h.j
  have u:=yk y.c h.v (y.f4+1) zB zB (eK (y.f4+1) y.ds R (ln y.ds)) (by rw[fX];omega) (λd hd=>by
    obtain⟨a,E,rfl⟩:=YO hd
    exact(L a E).1.i) (λd hd=>by
    obtain⟨a,E,rfl⟩:=YO hd;refine(L a E).1.sc ?_
    exact KV.of zB ((h.sc _ (yK y.ds a E)).mono zB) (Yb _ _)) (cM y.c y.sg (eO R (ln y.ds))) y.sv y.st y.vw V h.sl h.tl (λk hk=>by
    have H:=W k hk
    exact⟨H.c,H.n,λe he=>by have:=H.e e he;omega,H.g⟩)
  have l1:((cM y.c y.sg (eO R (ln y.ds))).map wU).length=ln y.c.js:=by rw[zAt];exact V
  have l2:(y.sv.map wP).length=ln y.c.js:=by rw[zAt];exact h.sl
  have l3:(y.st.map iA).length=ln y.c.js:=by rw[zAt];exact h.tl
  have l4:((ZH (eJ y R) (cM y.c y.sg (eO R (ln y.ds))) (ln y.c.js)).map wU).length=ln y.c.js:=by unfold ZH;rw[zAt,wT];exact V
  have l5:((ZI (eJ y R) y.sv (ln y.c.js)).map wP).length=ln y.c.js:=by unfold ZI;rw[zAt,wT];exact h.sl
  have l6:((XW y.st (ln y.c.js)).map iA).length=ln y.c.js:=by unfold XW;rw[zAt,wT];exact h.tl
  have l7:((KU y.c.js (eJ y R) (ln y.c.js)).map vG).length=ln y.c.js:=by simp[KU]
  have br:=zA uF y.c.ags;unfold u9 at u;rw[show ZG y.c (cM y.c y.sg (eO R (ln y.ds))) y.sv y.st (eK (y.f4+1) y.ds R (ln y.ds)) (y.f4+1)=eJ y R from Z,Ys,l1,l2,l3,l4,l5,l6]at u;have eT:qA (qW y R)= .agg [zE wD y.c.js,zE uF y.c.ags,iA y.c.per,iA y.c.cap,iA y.c.hold,iA y.c.lock,bA false,iA (y.f4+1),zE zM (qW y R).ds,zE wU (qW y R).sg,zE wP (qW y R).sv,zE iA (qW y R).st,zE vG (qW y R).vw]:=rfl;have d1:eK (y.f4+1) y.ds R (ln y.ds)=(qW y R).ds:=rfl;have d2:ZH (eJ y R) (cM y.c y.sg (eO R (ln y.ds))) (ln y.c.js)=(qW y R).sg:=rfl;have d3:ZI (eJ y R) y.sv (ln y.c.js)=(qW y R).sv:=rfl;have d4:XW y.st (ln y.c.js)=(qW y R).st:=rfl;have d5:KU y.c.js (eJ y R) (ln y.c.js)=(qW y R).vw:=rfl;rw[d2]at u l4;rw[d3]at u l5;rw[d4]at u l6;rw[d5]at u l7;rw[d1]at u⊢;refine zS u ?_;refine wJ [2,3,4,5,6,7,11] [2,3,4,5,6,7,11,78,79] Z ?_
  (conv=>whnf)
  simp only[zBf];rw[zA2 (l:=(qW y R).sg.map wU) (zCz l4),zA2 (l:=(qW y R).sv.map wP) (zCz l5),zA2 (l:=(qW y R).st.map iA) (zCz l6),zA2 (l:=(qW y R).vw.map vG) (zCz l7),br];have M:=EZ h L;have zc:(qW y R).c=y.c:=rfl;have zn:(qW y R).f4=y.f4+1:=rfl;have zd:(qW y R).ds.length=ln y.ds:=fX ..;have zR:∀a,a<ln y.ds->(qW y R).ds.getD a dd=(R a).d:=λa E=>aE E
  have co:=zA zM (qW y R).ds;have eA:∀T f,L5 T f= .agg [.ref 1051 0 (T.map jI).length,zE zX [f]]:=λ_ _=>rfl
  have eH:∀T,K5 T=[(1051,.arr 1 (T.map jI) true)]:=λ_=>rfl
  rw[eT,eA,eH];clear d1 d2 d3 d4 d5 u l1 l2 l3 l4 l5 l6 l7 V W ac eY a4;refine gJ 11 0 1051 1 Z Z Z Z Z ?_
  have az:∀a k,Xb (qW y R) ins R (ln y.ds) a k=if(ins.getD ((jJ y.c.ags a).toNat+k) dd).opn=true then Og ((qW y R).ds.getD a dd) (qW y R).vw (qW y R).f4 k (R a).R (XV R (ln y.ds))else []:=λ_ _=>rfl
  generalize Xb (qW y R) ins R (ln y.ds)=A at *;generalize qW y R=z at *;refine zO (ln y.c.ags) [11,1051,2,3,4,5,6,7] [2,3,4,5,6,7] [2,3,4,5,6,7,11,78,86] [79,2,3,4,5,6,7,11,78,86] Z (λi T U=>⟨(79,iA i)::T,(11,.box [.ref 1051 0 ((SI y.c A i).map jI).length,.s (.slice none 0 0)])::(1051,.arr 1 ((SI y.c A i).map jI) true)::U⟩) (Lq ?_ ?_)
  .intro i hi;have B:i<ln y.ds:=by omega
   have ks:=me y.c i;have ht:=sk y.c hw i hi;obtain⟨I,a3⟩:∃I:Nat,jJ y.c.ags i=(I:Int):=⟨(jJ y.c.ags i).toNat,by have:=kG hw i zB;omega⟩;obtain⟨N,hN⟩:∃N:Nat,(y.c.ags.getD i dd).ses=(N:Int):=⟨(y.c.ags.getD i dd).ses.toNat,by have:=hw.at (i:=i) zB;omega⟩;have ca:=hw.at (i:=i) zB;have hL:HE y.c i=(py N).map λk=>[nk i k (I+k)]:=by unfold HE;rw[a3,hN];rfl
   have ck:=VZ hw A i zB;have cj:=kG hw i zB;rw[VY,show(y.c.ags.getD i dd).ses.toNat=N by omega]
   have cl:(List.map (λk=>Yx (R k)) (py (ln y.ds)))[i]? =some (.sl false ((R i).R.map jI)):=by
    rw[zA1,zCn B];rfl
   have G:=(L i B).1;have hI:=M.di _ (yK z.ds i zB);have b4:=zR i B
   have cb:(R i).d.au.length=N:=by
    have:=G.i.au;rw[G.ag]at this;have e9:=h.dg i B;rw[show(XT (y.ds.getD i dd) (y.f4+1)).rg.ag=(y.ds.getD i dd).rg.ag from Z,e9]at this;omega
   have a2:(XT (y.ds.getD i dd) (y.f4+1)).au.length=N:=by
    have:=(h.di _ (yK y.ds i B)).au;rw[h.dg i B]at this
    show(y.ds.getD i dd).au.length=N
    omega
   have bl:=G.rn;rw[a2]at bl;have ax:=G.rv
   have av:∀e∈XV R (ln y.ds),Ij e:=λe he=>by
    obtain⟨a,E,he⟩:=IX he;exact(L a E).1.en e he
   have b9:=UA a5 (ln y.ds);have bz:=hI.a.q;have kt:=λk (hk:k<N)=>Zs z M.n0 zB i k (I+k) zB hI.bd bz (by have:=M.wl;have:=M.v.j;omega) M.wb (by rw[b4];omega) (R i).R ax zB (XV R (ln y.ds)) av zB
   have a1:∀k,k<N->A i k=if(ins.getD (I+k) dd).opn=true then Og (z.ds.getD i dd) z.vw z.f4 k (R i).R (XV R (ln y.ds))else []:=λk hk=>by
    rw[az i k,a3];rfl
   clear az av ax L G hI zR;have eZ:qA z= .agg [zE wD y.c.js,zE uF y.c.ags,iA y.c.per,iA y.c.cap,iA y.c.hold,iA y.c.lock,bA false,iA (y.f4+1),zE zM z.ds,zE wU z.sg,zE wP z.sv,zE iA z.st,zE vG z.vw]:=eT;rw[eZ]at kt;rw[show zE jI (R i).R= .sl false ((R i).R.map jI)from Z]at kt;generalize (R i).R.map jI=Rm at *;rw[zA0];have b3:=zA jI (SI y.c A i);generalize (SI y.c A i).map jI=X at *;unfold Bg at ks ht;unfold wH at ks;refine zS ks ?_
   refine qN hF ht Z [2,3,4,5,6,7,11,12,1051] [2,3,4,5,6,7,11,12,78,79] Z Z Z Z Z Z Z Z Z (λk ys h=>?_) (λk=>[(2,.box [zE wD y.c.js,zE uF y.c.ags,iA y.c.per,iA y.c.cap,iA y.c.hold,iA y.c.lock,bA false,iA (y.f4+1),zE zM z.ds,zE wU z.sg,zE wP z.sv,zE iA z.st,zE vG z.vw]),(3,.box [zE uZ ins]),(4,.box [.s (.slice none 0 0),.s (.slice none 0 0),iA 0,iA 0,iA 0,iA 0,bA false,iA 0,.s (.slice none 0 0),.s (.slice none 0 0),.s (.slice none 0 0),.s (.slice none 0 0),.s (.slice none 0 0)]),(5,.box [.s (.slice none 0 0),.s (.slice none 0 0)]),(6,.box [.sl false (List.map (λk=>Yx (R k)) (py (ln y.ds)))]),(7,.box [zE kF (XV R (ln y.ds))]),(11,.box [.ref 1051 0 (X++(OQ A i k).map jI).length,.s (.slice none 0 0)]),(12,.box [iA i]),(1051,.arr 1 (X++(OQ A i k).map jI) true)]) (λ_=>True)
    (T:=[(2,.ptr 2 0 0),(3,.ptr 3 0 0),(4,.ptr 4 0 0),(5,.ptr 5 0 0),(6,.ptr 6 0 0),(7,.ptr 7 0 0),(11,.ptr 11 0 0),(12,.ptr 12 0 0),(78,iA (ln y.c.ags)),(79,iA i)]) (by rw[show(OQ A i 0).map jI=[]from Z,zBo];rfl) trivial (λk ys q ar bk F1 h1 h2=>?_) (λbk=>?_)
   .rw[hL,zA1,zBc]at h;obtain⟨x,_,rfl⟩:=h;rfl
   .have hk:k<N:=by
     have:=(zBk.1 ar).1;rw[hL,zAt,zCd]at this;exact this
    rw[hL,zA1,zCn hk]at ar;obtain rfl:=zD4 ar;have ci:((OQ A i k).map jI).length=k:=by unfold OQ;rw[zAt,zAt,zCd]
    have kt:=kt k hk;rw[DA,zA0,show [A i k].map jI=[zE zX (A i k)]from Z,a1 k hk,<-zBl];generalize (OQ A i k).map jI=O,Og (z.ds.getD i dd) z.vw z.f4 k (R i).R (XV R (ln y.ds))=tl at *;by_cases hq:I+k<ln ins
    .have bf:=zJ uZ ins (I+k) hq;generalize ins.getD (I+k) dd=x at *;unfold uZ at bf;obtain⟨xo,xs⟩:=x;refine WW ?_;refine⟨rfl,λF2 V W=>?_⟩;dsimp only at bf⊢;cases xo
     .rw[Os zA9]
      (repeat' (first|refine jZ ?_|apply yW|apply xH|intro hc|(apply zG;first|(apply yH;refine ZX 117 Z Z Z ?_;refine vD tok Z Z ?_))|refine SB ?_|fail))
      exact⟨rfl,trivial⟩
     .rw[zAs Z]
      (have gd:=kt;(repeat' (first|refine jZ ?_|apply yW|apply xH|intro hc|(apply zG;first|(apply yH;refine ZX 117 Z Z Z ?_;refine vD tok Z Z ?_))|refine SB ?_|fail))<;>clear gd)
      exact⟨rfl,trivial⟩
    .rw[show(ins.getD (I+k) dd).opn=false by rw[zA5,zB6 zB];rfl,Os zA9];refine WW ?_;refine⟨rfl,λF2 V W=>?_⟩
     (repeat' (first|refine jZ ?_|apply yW|apply xH|intro hc|(apply zG;first|(apply yH;refine ZX 117 Z Z Z ?_;refine vD tok Z Z ?_))|refine SB ?_|fail))
     exact⟨rfl,trivial⟩
   .rw[show(HE y.c i).length=N by rw[hL,zAt,zCd]]
    show uE _ _ _ _ ⟨_,_⟩ _
    refine WW ?_;rfl
  .have b2:ln z.vw<=4:=by have:=M.wl;have:=M.v.j;omega
   have kf:=xz (y.f4+1) z.vw zB M.wb;have kv:=EW [QI (y.f4+1) z.vw] zV (λm hm=>by rw[zBm.1 hm];exact yz z.vw (y.f4+1) zB zB b2 M.wb);rw[show zE zX [QI (y.f4+1) z.vw]= .sl false [zX (QI (y.f4+1) z.vw)]from Z]at *; generalize QI (y.f4+1) z.vw=fm at *;have b3:=zA jI (SI y.c A (ln y.c.ags));generalize (SI y.c A (ln y.c.ags)).map jI=X at *;refine zS kf ?_
   (refine vH 51 ?_;refine vV [2,4,5,11,1051] [2,4,5,11,127] Z ?_;(conv=>whnf);(try simp only[zBf,zAv]);first|refine wM (zL (kv) Z Z Z Z Z) Z ?_|refine uT (zL (kv) Z Z Z Z Z) Z Z Z ?_|refine aI (zL (kv) Z Z Z Z Z) Z Z Z ?_)
   refine WW ?_;exact zI [1051] Z Z Z Z
def wz {u:Cy} {T:List (List Ms)} {f:Ms} (k:zN 12 [qA y,zE uZ ins] [] (.tup [qA u,L5 T f]) (K5 T)):zN 12 [qA y,zE uZ ins] [] (.tup [qA u,Y6 T f]) []:=by
 refine k.frz [] ?_ Z Z
 show AV.tup [_,AV.agg [AV.sl false (p5 (T.map jI).length (T.map jI)),_]]=_
 rw[zAv];rfl
def X6 (h:LR y) (hn:y.f4<1000000000) (E:Vj y ins R):YP (QI (y.f4+1) (qW y R).vw)/\∀x∈SI y.c (Xb (qW y R) ins R (ln y.ds)) (ln y.c.ags),ln x<=1002/\∀m∈x,YP m:=by
 have B:=EZ h E;have n0:=h.n0;have hw:=h.v.ag;have W:=h.dl;have A:(qW y R).vw.length<=4:=by have:=B.wl;have:=B.v.j;omega
 have C:∀e∈XV R (ln y.ds),Ij e:=λe G=>by
  obtain⟨a,V,G⟩:=IX G;exact(E a V).1.en e G
 refine⟨yz _ _ zB zB A B.wb,λx hx=>?_⟩;obtain⟨s,M,e⟩:=List.mem_iff_getElem.1 hx;obtain⟨a,k,h1,h2,h3,S⟩:=je hw (Xb (qW y R) ins R (ln y.ds)) _ (zAy _) s M;have O:x=Xb (qW y R) ins R (ln y.ds) a k:=by rw[<-S,zA5,zBq M,<-e];rfl
 rw[O];unfold Xb;split
 .have u:a<ln y.ds:=by omega
  have z:=(E a u).1
  have L:((XT (y.ds.getD a dd) (y.f4+1)).au.length:Int)=(y.c.ags.getD a dd).ses:=by
   have:=(h.di _ (yK y.ds a u)).au;rw[h.dg a u]at this;exact this
  have U:=z.rn;have hq:=z.i.a.q;have I:(qW y R).ds.getD a dd=(R a).d:=aE u;rw[I];exact ox _ hq _ _ (by show 0<=y.f4+1;omega) (by show y.f4+1<=_;omega) A B.wb k (R a).R z.rv zB _ C
 .exact⟨zBb _,λm Y=>by cases Y⟩
structure W9 (y y':Cy) (ins:List In) (T:List (List Ms)):Prop where
 i:LR y'
 c:y'.c=y.c
 n:y'.f4=y.f4+1
 l:T.length=ins.length
 v:∀x∈T,x.length<=1002/\∀m∈x,YP m
 f:YP (QI (y.f4+1) y'.vw)
 tk:Vj y ins (Ka y ins)/\y'=qW y (Ka y ins)/\T=SI y.c (Xb y' ins (Ka y ins) y.ds.length) y.c.ags.length
def Uj (y:Cy) (h:LR y) (z:y.f4<1000000000) (ins:List In) (G:(ln ins:Int)=jJ y.c.ags (ln y.c.ags)) (A:∀i∈ins,Ja i):
  ∃(B:Cy) (T:List (List Ms)),W9 y B ins T/\zN 12 [qA y,zE uZ ins] [] (.tup [qA B,L5 T (QI (y.f4+1) B.vw)]) (K5 T):=by
 have u:=rx h z A;have k:=ee y h z ins zB (Ka y ins) u (λi=>(bH ..).1) (λi=>(bH ..).2);obtain⟨R,C⟩:∃R,R=Ka y ins:=⟨_,rfl⟩;rw[<-C]at u k;have E:=EZ h u;have hl:=VZ h.v.ag (Xb (qW y R) ins R (ln y.ds)) _ (zAy _);exact⟨qW y R,SI y.c (Xb (qW y R) ins R (ln y.ds)) (ln y.c.ags),⟨E,rfl,rfl,zB,(X6 h z u).2,(X6 h z u).1,C▸⟨u,rfl,rfl⟩⟩,k⟩
def W6:AV:= .agg [.s (.slice none 0 0),.s (.slice none 0 0),iA 0,iA 0,iA 0,iA 0]
def Zx (n:Int):AV:= .agg [.sl false [],.sl false [],iA 0,iA 0,iA 0,iA 0,bA true,iA n,.sl false [],.sl false [],.sl false [],.sl false [],.sl false []]
def Xs:AV:= .sl false [.agg [iA 22,.s (.slice none 0 0),.sl false [iA 16],.s (.slice none 0 0)]]
def Ng:zN 148 [iA 0,iA 1,iA 4] [] (bA false) []:=by
 refine eM call148 λF hF=>?_
 (repeat' (first|refine aP ?_|refine yW (λhc=>?_) λhc=>?_|fail))
 exact zH
def Ws:zN 78 [W6] [] (bA false) []:=by
 have w:=Ng;unfold W6;refine eM call78 λF hF=>?_
 exact nl w
def Vs:zN 33 [W6] [] (Zx 0) []:=by
 have w:=Ws;unfold W6 at *;unfold Zx;refine eM call33 λF hF=>?_
 refine zS w ?_;refine zO (0) [2,3] [2,3] [2,3,19,20] [21,2,3,19,20] Z (λi T U=>⟨(21,iA i)::T,U⟩) (Lq ?_ ?_)
 .intro i hi;cases hi
 .exact mx
def V6:zN 44 [Zx 0] [] (Zx 0) []:=
 OW ⟨⟨[],[],0,0,0,0⟩,true,0,[],[],[],[],[]⟩ ⟨by simp,λ_ h=>(by cases h),by simp,λ_ h=>(by cases h),by simp,λ_ h=>(by cases h),by simp,by simp,λ_ h=>(by cases h)⟩
def Tj:zN 113 [] [] Xs []:=by
 unfold Xs;refine eM call113 λF hF=>?_
 exact nm
def U6:AV:= .sl false [.agg [bA true,.s (.slice none 0 0)]]
def Mg:zN 45 [U6] [] (.agg [.sl false [Xs],Xs]) []:=by
 have w:=Tj;unfold U6 Xs at *;obtain⟨z,u,hl,A⟩:∃l:List AV,l=[.agg [bA true,.s (.slice none 0 0)]]/\l.length=1/\l[(0:Nat)]? =some (.agg [bA true,.s (.slice none 0 0)]):=⟨_,rfl,rfl,rfl⟩;rw[<-u];refine eM call45 λF hF=>?_
 refine zS w ?_;rw[hl];refine zO (1) [7,2,3] [2,3] [0,2,3,11] [12,0,2,3,11] Z (λi T U=>⟨(12,iA i)::T,(7,.arr 1 (if i=0 then [.s (.slice none 0 0)]else [.sl false [.agg [iA 22,.s (.slice none 0 0),.sl false [iA 16],.s (.slice none 0 0)]]]) false)::U⟩) (Lq ?_ ?_)
 .intro i hi;obtain rfl:i=0:=by omega
  refine zS w ?_;rfl
 .exact mx
def Sj:zN 12 [Zx 0,U6] [] (.tup [Zx 1,.agg [.sl false [Xs],Xs]]) []:=by
 have w:=Mg;have k:=V6;unfold U6 Xs Zx at *;refine eM call12 λF hF=>?_
 refine zS k ?_;rw[show min (0:Int) 1073741823+1=1 from Z];exact nl w
def Kg:zN 18 [] [] (bA true) []:=by
 have u:=Vs;have z:=Sj;unfold W6 at u;unfold U6 Xs Zx at *;refine eM call18 λF hF=>?_
 exact ny (xQ u z)
def dT (n a b:Int) (h:a<=n/\n<=b):zN 154 [iA n,iA a,iA b] [] (bA true) []:=by
 have k:=gL n a b
 rwa [show uG n a b=true from zAw h]at k
def T6 (j:Jn) (J:JV j):zN 210 [zE iA j.cf] [] (bA true) []:=by
 have hl:=zA iA j.cf;have M:=J.n;have hc:=J.c;have I:=F0 (n:=ln j.cf) zB;refine eM call210 λF hF=>?_
 refine WW ?_;refine zO (ln j.cf) [] [] [0,14,15] [16,0,14,15] Z (λi T U=>⟨(16,iA i)::T,U⟩) (Lq ?_ ?_)
 .intro u L;have O:=zJ iA j.cf u L;have z:=J.row u zB;have G:(2:Int) ^ (ln j.ph)=p2 (ln j.cf:Int):=by rw[hc];unfold p2;rw[zBh]
  rw[G,<-hl]at z;have E:=kK j.cf zB u u;rw[J.ir u zB]at E;have A:=λv:Nat=>kK j.cf zB u v
  have B:=λv:Nat=>kK j.cf zB v u
  have C:=λv (hv:v<ln j.cf)=>J.sy u v zB zB
  rw[<-hl]at I;generalize j.cf.getD u dd=x at *;refine zS E ?_;refine zO (ln j.cf) [] [] [0,3,14,15,16,38] [39,0,3,14,15,16,38] Z (λi T U=>⟨(39,iA i)::T,U⟩) (Lq ?_ ?_)
  .intro v hv;have A:=A v;have B:=B v;rw[C v hv]at A;clear C;generalize kC j.cf v u=b at *;cases b
   all_goals
    (refine yF (xQ A B) ?_)
    rfl
  ·(refine WW ?_)
   rfl
 .exact mx
def Rj (j:Jn) (J:JV j) (p:Nat) (z:p<ln j.ph):zN 211 [xN (yG j p)] [] (bA true) []:=by
 have W:=J.rg p z;have V:=J.gp p z;obtain⟨Y,t2,t3,t4,t5,t6,t7,t8,t9,A,B,ac,u⟩:=J.ti p z;generalize yG j p=t at *;have C:=dT t.ring 0 1 W;have E:=dT t.group 0 3 V;have G:=dT t.ming 1 60 ⟨Y,zB⟩;have I:=dT t.maxg t.ming 60 ⟨zB,t3⟩;have L:=dT t.yel 1 60 ⟨t4,t5⟩;have M:=dT t.red 0 60 ⟨t6,t7⟩;have O:=dT t.walk 0 60 ⟨t8,t9⟩;have S:=dT t.clear 0 60 ⟨A,B⟩;by_cases U:t.walk=0
 .have h1:=u.1 U;clear u;refine eM call211 λF hF=>?_
  exact ng (yy C E G I L M O S)
 .have h1:¬t.clear=0:=λh=>U (u.2 h)
  clear u;refine eM call211 λF hF=>?_
  exact ng (yy C E G I L M O S)
def DB (j:Jn) (p i:Nat):Bool:=(yG j p).group==0||(py i).any λq=>(yG j q).group==(yG j p).group-1
def Qj (j:Jn) (p i:Nat):DB j p (i+1)=(DB j p i||(yG j i).group==(yG j p).group-1):=by
 unfold DB;rw[zCt,List.any_append,zGf,List.any_nil,zFx,Bool.or_assoc]
def Us (j:Jn) (J:JV j) (p:Nat) (u:p<ln j.ph):DB j p (ln j.ph)=true:=by
 unfold DB;have B:=J.gp p u;by_cases z:(yG j p).group=0
 .rw[z];rfl
 .obtain⟨q,A,e⟩:=J.lo p u ((yG j p).group-1) zB zB;rw[zC5];exact .inr (zCl.2 ⟨q,zBj.2 A,by rw[zB8];exact e⟩)
theorem DC (j:Jn) (J:JV j):zN 155 [wD j] [] (bA true) []:=by
 have hl:=zA xN j.ph;have ag:=zA iA j.cf;have hn:=J.n;have hc:=J.c;have c1:=T6 j J;have c2:=dT j.st 0 60 J.st;refine eM call155 λF hF=>?_
 refine yF (xQ c1 c2) ?_;refine zO (ln j.ph) [1] [1] [1,42,43] [44,1,42,43] Z (λi T U=>⟨(44,iA i)::T,U⟩) (Lq ?_ ?_)
 .intro u G;have Y:=zJ xN j.ph u G
  change (j.ph.map xN)[u]? =some (xN (yG j u))at Y
  have cp:=Rj j J u G;generalize yG j u=t at *;refine zS cp ?_;rfl
 .clear c1 c2;refine WW ?_;refine zO (ln j.ph) [1] [1] [1,53,54] [55,1,53,54] Z (λi T U=>⟨(55,iA i)::T,U⟩) (Lq ?_ ?_)
  .intro u G;have Y:=zJ xN j.ph u G
   change (j.ph.map xN)[u]? =some (xN (yG j u))at Y
   have C:=Us j J u G;have hg:=J.gp u G;have A:DB j u 0=((yG j u).group==0):=by unfold DB;simp
   have E:=Qj j u;refine WW ?_;refine zO (ln j.ph) [1,7] [1,7] [1,6,7,53,54,55,61,62] [63,1,6,7,53,54,55,61,62] Z (λi T U=>⟨(63,iA i)::T,U⟩) (Lq ?_ ?_)
   .intro v hv;have B:=zJ xN j.ph v hv
    change (j.ph.map xN)[v]? =some (xN (yG j v))at B
    have M:=kK j.cf zB u v;have z:=J.ap u v G hv;clear E A C;by_cases I:u=v
    .have W:(u:Int)=v:=by omega
     clear z;generalize yG j u=a,yG j v=b at *;refine WW ?_;rfl
    have W:¬(u:Int)=v:=by omega
    by_cases h1:(yG j u).ring=(yG j v).ring
    .rw[z I (.inl h1)]at M;clear z;generalize yG j u=a,yG j v=b at *;refine zS M ?_;rfl
    by_cases h2:(yG j u).group=(yG j v).group
    .clear z;generalize yG j u=a,yG j v=b at *;refine WW ?_;rfl
    .rw[z I (.inr h2)]at M;clear z;generalize yG j u=a,yG j v=b at *;refine zS M ?_;rfl
   .have L:∀b:Bool,((yG j u).group==0)=b->b=DB j u 0:=λb h=>by rw[A,h]
    by_cases O:(yG j u).group=0
    .have S:DB j u 0=true:=by rw[A,zB8];exact O
     clear L;refine WW ?_;refine zO (ln j.ph) [1,7] [1,7] [1,7,53,54,55,98,99] [10,100,1,7,53,54,55,98,99] Z (λi T U=>⟨(10,bA (DB j u i))::(100,iA i)::T,U⟩) ?_;(conv=>whnf);refine⟨by(rw[S];rfl),?_,?_⟩
     .intro v hv;have B:=zJ xN j.ph v hv
      change (j.ph.map xN)[v]? =some (xN (yG j v))at B
      have e9:DB j u v=true:=by unfold DB;rw[O];rfl
      have V:DB j u (v+1)=true:=by unfold DB;rw[O];rfl
      rw[e9,V];generalize yG j u=a,yG j v=b at *;refine WW ?_;rfl
     .rw[C];refine WW ?_;rfl
    .have S:DB j u 0=false:=by rw[A,zBn];exact O
     clear L;refine WW ?_;refine zO (ln j.ph) [1,7] [1,7] [1,7,53,54,55,98,99] [10,100,1,7,53,54,55,98,99] Z (λi T U=>⟨(10,bA (DB j u i))::(100,iA i)::T,U⟩) ?_;(conv=>whnf);refine⟨by(rw[S];rfl),?_,?_⟩
     .intro v hv;have B:=zJ xN j.ph v hv
      change (j.ph.map xN)[v]? =some (xN (yG j v))at B
      have V:=E v;rw[V];have ac:=J.gp v hv;generalize DB j u v=bb at *;clear C E A;generalize yG j u=a,yG j v=b at *;cases bb
      .by_cases hq:b.group=a.group-1
       .rw[show(false||b.group==a.group-1)=true by rw[zC7,zB8];exact hq];refine WW ?_;rfl
       .rw[show(false||b.group==a.group-1)=false by rw[zC7,zBn];exact hq];refine WW ?_;rfl
      .rw[zDf];refine WW ?_;rfl
     .rw[C];refine WW ?_;rfl
  .exact mx
def vz (c:Cf) (h:Qb c):zN 84 [wH c] [] (bA true) []:=by
 have hj:=h.j;have M:=h.a;have A:=zA wD c.js;have z:=zA uF c.ags;have C:=dT ((c.js.map wD).length:Int) 1 4 zB;have w2:=dT ((c.ags.map uF).length:Int) 1 4 zB;have E:=dT c.per 1 600 h.p;have G:=dT c.cap 0 100 h.cp;have I:=dT c.hold 1 60 h.h;have L:=dT c.lock 0 600 h.l;unfold wH zE;refine eM call84 λF hF=>?_
 refine yF (xQ C w2) ?_;refine zO ((c.js.map wD).length) [1] [1] [1,20,21] [22,1,20,21] Z (λi T U=>⟨(22,iA i)::T,U⟩) (Lq ?_ ?_)
 .intro i hi;have B:=zJ wD c.js i zB;have u:=DC _ (h.jv _ (yK c.js i zB));generalize c.js.getD i dd=j at *;refine zS u ?_;rfl
 ·(refine WW ?_)
  refine zO ((c.ags.map uF).length) [1] [1] [1,31,32] [33,1,31,32] Z (λi T U=>⟨(33,iA i)::T,U⟩) (Lq ?_ ?_)
  .intro i hi;have B:=zJ uF c.ags i zB;have u:=IK (c.ags.getD i dd);rw[(bv _).2 (h.av _ (yK c.ags i zB))]at u;generalize c.ags.getD i dd=a at *;refine zS u ?_;rfl
  .exact ng (cI E G I L)
def Pj (p:Ph) (h:Ex p) (l:Li) (B: -1000000000000<=l.tk/\l.tk<=1000000000000) (z: -1000<=yf p/\yf p<=1000) (C: -1000<=p.yel/\p.yel<=1000) (A: -1000<=p.red/\p.red<=1000):zN 77 [xN p,xE l] [] (iA (Qr p l)) []:=by
 have c:=Ce p h;unfold Qr;generalize yf p=n at *;by_cases h1:l.lamp=1
 .rw[zAs h1,Int.max_comm];refine eM call77 λF hF=>?_
  exact nl c
 rw[Os h1];by_cases h2:l.lamp=2
 .rw[zAs h2];refine eM call77 λF hF=>?_
  exact mx
 rw[Os h2];by_cases u:l.lamp=3
 .rw[zAs u];refine eM call77 λF hF=>?_
  exact mx
 .rw[Os u];refine eM call77 λF hF=>?_
  exact mx
def Oj (s:Sg) (i:Nat):List Int:=(py i).map λp=>xk (xR s.c p)
def Nj (j:Jn) (s:Sg) (i:Nat):List Int:=(py i).map λp=>Qr (yG j p) (xR s.c p)
def de (f:Nat->Int) (n:Nat):(py n).map f=aZ (λp _=>f p) (pi n 0) n:=by
 apply zB2;intro k;rw[vS,zCk,zA1];by_cases hk:k<n
 .rw[zAs hk,zAs hk,zCn hk];rfl
 .rw[Os hk,zB6 qB];rfl
theorem Mj (j:Jn) (J:JV j) (s:Sg) (C:CV j s.c) (v:Sv):zN 30 [wD j,wU s,wP v] [] (vG (XL j s v)) []:=by
 have k:=zw j J.n.2;have hl:=zA xN j.ph;have W:=J.n;have z:(s.c.li.map xE).length=ln j.ph:=by rw[zAt];exact C.n
 unfold XL
 cases u:s.lat with
 |true=>
  rw[zAs Z];unfold wU wP;rw[u];unfold vG at *;refine eM call30 λF hF=>?_
  exact nl k
 | false=>
  rw[Os zA9];have e1:PG s (ln j.ph) (ln j.ph)=Oj s (ln j.ph):=(de _ _).symm;have I:EJ j s (ln j.ph) (ln j.ph)=Nj j s (ln j.ph):=(de _ _).symm;rw[e1,I];have O:∀i,(Oj s (i+1)).map iA=(Oj s i).map iA++[iA (xk (xR s.c i))]:=λi=>by simp[Oj,zCt]
  have S:∀i,(Nj j s (i+1)).map iA=(Nj j s i).map iA++[iA (Qr (yG j i) (xR s.c i))]:=λi=>by simp[Nj,zCt]
  have L:∀i,((Oj s i).map iA).length=i:=λi=>by simp[Oj]
  have M:∀i,((Nj j s i).map iA).length=i:=λi=>by simp[Nj]
  unfold wD wU wP zE at *;rw[u];refine eM call30 λF hF=>?_
  refine WW ?_;refine zQ 8 1021 1 Z Z Z ?_;refine zQ 9 1022 1 Z Z Z ?_;refine zO ((s.c.li.map xE).length) [1021,1022,3,6,7] [3,6,7] [3,6,7,24,25] [8,9,26,3,6,7,24,25] Z (λi T U=>⟨(8,.ref 1021 0 ((Oj s i).map iA).length)::(9,.ref 1022 0 ((Nj j s i).map iA).length)::(26,iA i)::T,(1021,.arr 1 ((Oj s i).map iA) true)::(1022,.arr 1 ((Nj j s i).map iA) true)::U⟩) (Lq ?_ ?_)
  .intro i hi;have hi':i<ln j.ph:=by omega
   have hy:(j.ph.map xN)[i]? =some (xN (yG j i)):=zJ xN j.ph i hi';have hz:(s.c.li.map xE)[i]? =some (xE (xR s.c i)):=zJ xE s.c.li i (by have:=C.n;omega);have Y:=J.ti i hi';have hv:=C.k i hi';have x1:=L i;have x2:=M i
   have E: -1000000000000<=(xR s.c i).tk/\(xR s.c i).tk<=1000000000000:=by
    unfold Ea at hv
    repeat' split at hv
    all_goals (first|(rw[zAz]at hv;omega)|cases hv)
   have G:=Pj (yG j i) ⟨zB,zB,zB,zB⟩ (xR s.c i) E (by unfold yf;omega) zB zB;rw[O,S];clear O S L M k e1 I;generalize Qr (yG j i) (xR s.c i)=V,(Oj s i).map iA=A,(Nj j s i).map iA=B at *;generalize yG j i=p at *;unfold xk;generalize xR s.c i=l at *;by_cases h1:l.lamp=1
   .rw[zAs (.inl h1)];refine zS G ?_;rfl
   by_cases h2:l.lamp=2
   .rw[zAs (.inr h2)];refine zS G ?_;rfl
   .rw[Os (λh=>h.elim h1 h2)];refine zS G ?_;rfl
  ·(refine WW ?_)
   refine zI [] Z Z ?_ Z
   show AV.agg [bA false,bA (v.ph != -1),.sl false (p5 ((Oj s (s.c.li.map xE).length).map iA).length (qd 0 ((Oj s (s.c.li.map xE).length).map iA))),.sl false (p5 ((Nj j s (s.c.li.map xE).length).map iA).length (qd 0 ((Nj j s (s.c.li.map xE).length).map iA)))]=_
   rw[zBf,zAv,zBf,zAv,z];rfl
theorem Ts (c:Cf) (h:Qb c):zN 34 [wH c] [] (qA (UD c)) []:=by
 have E:=vz c h;have hj:=h.j;have ha:=h.a;have B:=zA wD c.js;have A:=zA uF c.ags;have z:∀i,((LY c i).map zM).length=i:=λi=>by simp[LY]
 have u:qA (UD c)= .agg [zE wD c.js,zE uF c.ags,iA c.per,iA c.cap,iA c.hold,iA c.lock,bA false,iA 0,zE zM (LY c (ln c.ags)),zE wU (c.js.map fO),zE wP (c.js.map HC),zE iA (c.js.map λ_=> -1),zE vG (c.js.map λj=>XL j (fO j) (HC j))]:=rfl;rw[u];unfold wH zE at *;refine eM call34 λF hF=>?_
 refine zS E ?_;refine zQ 7 1011 17 Z Z Z ?_;refine zO ((c.ags.map uF).length) [1011,1,2,3] [1,2,3] [1,2,3,4,40,41] [7,42,1,2,3,4,40,41] Z (λi T U=>⟨(7,.ref 1011 0 ((LY c i).map zM).length)::(42,iA i)::T,(1011,.arr 17 ((LY c i).map zM) true)::U⟩) (Lq ?_ ?_)
 .intro i hi;have O:=zJ uF c.ags i zB;have V:=(I7 (i:Int) _ (h.av _ (yK c.ags i zB))).2;have e:(LY c (i+1)).map zM=(LY c i).map zM++[zM (QY (i:Int) (c.ags.getD i dd) (c.ags.getD i dd).ses.toNat)]:=by unfold LY;rw[zCt,zA0,zA0];rfl
  have z:=z i;rw[e];clear E u e;generalize QY (i:Int) (c.ags.getD i dd) (c.ags.getD i dd).ses.toNat=dk at *;generalize c.ags.getD i dd=a at *;generalize (LY c i).map zM=X at *;unfold zM xD at*
  (have gd:=V;(repeat' (first|refine jZ ?_|apply yW|apply xH|intro hc|(apply zG;first|(apply yH;refine vD tok Z Z ?_))|refine SB ?_|fail))<;>clear gd)
  rfl
 ·(refine WW ?_)
  refine zQ 10 1012 5 Z Z Z ?_;refine zQ 11 1013 3 Z Z Z ?_;refine zQ 12 1014 1 Z Z Z ?_;refine zQ 4 1015 4 Z Z Z ?_;rw[A];refine zO ((c.js.map wD).length) [1012,1013,1014,1015,2,3,1011] [2,3,1011] [2,3,7,55,56] [4,10,11,12,57,2,3,7,55,56] Z (λi T U=>⟨(4,.ref 1015 0 (((c.js.take i).map λj=>XL j (fO j) (HC j)).map vG).length)::(10,.ref 1012 0 (((c.js.take i).map fO).map wU).length)::(11,.ref 1013 0 (((c.js.take i).map HC).map wP).length)::(12,.ref 1014 0 ((c.js.take i).map λ_=>iA (-1)).length)::(57,iA i)::T,(1012,.arr 5 (((c.js.take i).map fO).map wU) true)::(1013,.arr 3 (((c.js.take i).map HC).map wP) true)::(1014,.arr 1 ((c.js.take i).map λ_=>iA (-1)) true)::(1015,.arr 4 (((c.js.take i).map λj=>XL j (fO j) (HC j)).map vG) true)::U⟩) (Lq ?_ ?_)
  .intro i hi;have hi':i<ln c.js:=by omega
   have O:=zJ wD c.js i hi';have J:=h.jv _ (yK c.js i hi')
   have G:c.js.take (i+1)=c.js.take i++[c.js.getD i dd]:=by
    rw[zA5,zBq hi',zDn,zDl hi']
   have M:(c.js.take i).length<=4:=by rw[zBi];omega
   have S:=Ge _ J;have I:=Ot (c.js.getD i dd).ph.length DW;have L:=Mj _ J (fO (c.js.getD i dd)) (Dl J) (HC (c.js.getD i dd));have C:((c.js.getD i dd).ph.map xN).length=(c.js.getD i dd).ph.length:=zAt ..;rw[G];simp only[zA0,zCc,zCm];have m1:(((c.js.take i).map fO).map wU).length=(c.js.take i).length:=by simp
   have m2:(((c.js.take i).map HC).map wP).length=(c.js.take i).length:=by simp
   have m3:((c.js.take i).map λ_=>iA (-1)).length=(c.js.take i).length:=by simp
   have m4:(((c.js.take i).map λj=>XL j (fO j) (HC j)).map vG).length=(c.js.take i).length:=by simp
   clear E u G J;unfold HC at *;rw[<-C]at I L⊢;generalize th ((c.js.getD i dd).ph.map xN).length=sv,fO (c.js.getD i dd)=W at *;generalize XL (c.js.getD i dd) W sv=vw at *;generalize c.js.getD i dd=j,((c.js.take i).map fO).map wU=Y at *;generalize ((c.js.take i).map λj=>th (ln j.ph)).map wP=X2 at *;generalize (c.js.take i).map (λ_=>iA (-1))=X3,((c.js.take i).map λj=>XL j (fO j) (th (ln j.ph))).map vG=X4 at *;unfold wD zE wU wP vG at*
   (have gd:=S;have gn:=I;have gt:=L;(repeat' (first|refine jZ ?_|apply yW|apply xH|intro hc|(apply zG;first|(apply yH;refine vD tok Z Z ?_))|refine SB ?_|fail))<;>clear gd gn gt)
   rfl
  .rw[B,zAv];refine WW ?_;refine zI [] Z Z ?_ Z
   show AV.agg [.sl false (c.js.map wD),.sl false (c.ags.map uF),iA c.per,iA c.cap,iA c.hold,iA c.lock,bA false,iA 0,.sl false (p5 ((LY c (ln c.ags)).map zM).length (qd 0 ((LY c (ln c.ags)).map zM))),.sl false (p5 ((c.js.map fO).map wU).length (qd 0 ((c.js.map fO).map wU))),.sl false (p5 ((c.js.map HC).map wP).length (qd 0 ((c.js.map HC).map wP))),.sl false (p5 (c.js.map λ_=>iA (-1)).length (qd 0 (c.js.map λ_=>iA (-1)))),.sl false (p5 ((c.js.map λj=>XL j (fO j) (HC j)).map vG).length (qd 0 ((c.js.map λj=>XL j (fO j) (HC j)).map vG)))]=_
   rw[zBf,zAv,zBf,zAv,zBf,zAv,zBf,zAv,zBf,zAv,show(c.js.map λ_=>iA (-1))=(c.js.map λ_=>(-1:Int)).map iA by rw[zGh];rfl]
