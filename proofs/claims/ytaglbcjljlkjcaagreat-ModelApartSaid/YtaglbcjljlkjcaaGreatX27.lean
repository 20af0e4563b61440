/- Part 27. -/
import Derived.Test.YtaglbcjljlkjcaaGreatX26
namespace Go.Proofs.YtaglbcjljlkjcaaGreat.Av
open Tryz
set_option linter.all false
set_option maxRecDepth 4000
set_option maxHeartbeats 8000000
open List renaming length->ln,replicate->pb,range->pi,take->py
open Inhabited renaming default->dd
variable {c:Cf}{y:Cy}{f3:Int}{ins:List In}{l:List Rq}{ds:List wE}{α:Type}{d:wE}
section
def ZH (m:Ms):Prop:=m.tok=[]/\V6 m.kind m.args m.data
structure Ps (i:It):Prop where
 y:BY i.pay
 n:i.pay.length<=100000
 k:0<=i.kind/\i.kind<=255
 c:0<=i.code/\i.code<=100
def HL (i:In):Prop:=ln i.its<=1000/\∀x∈i.its,Ps x
theorem HL.b {i:In} (h:HL i):zz i:=⟨h.1,λx u=>⟨(h.2 x u).y,(h.2 x u).n⟩⟩
structure Fj (e:En):Prop where
 a:0<=e.ag/\e.ag<4
 k:0<=e.ki/\e.ki<=255
 c:0<=e.co/\e.co<=100
theorem dS (l:List Int):((l.map jQ).flatten).length<=5*ln l:=by
 induction l with
 |nil=>simp
 |cons a l u=>
  grind [jQ,gD,List.flatten_cons,List.length_append,List.length_cons]
theorem sv2 (k a b:Int) (hk:k=13\/k=14\/k=15) (u:0<=a/\a<=4294967295) (hb:0<=b/\b<=4294967295):ZH ⟨k,[],[a,b],[]⟩:=by
 have h:=dS [a,b];refine⟨rfl,?_⟩;dsimp only
 have A:jP k=(2,0,0,0,0):=by rcases hk with rfl|rfl|rfl<;>rfl
 refine⟨zB,.cons u (.cons hb .nil),by simp,λx z=>(by cases z),?_,?_,by simp only[zBl,zCd]at *; omega⟩
 all_goals grind
theorem iz (z:qE c d):RX (gC d.rq):=by
 have A:=z.v.ok;generalize d.rq=l at *;intro x u;unfold gC at u;obtain⟨y,C,u⟩:=zFc.1 u;obtain⟨r,B,rfl⟩:=zCl.1 C;have h:=A r B;have E:=h.i0;have h1:=h.i1;have h2:=h.t0;have G:=h.t1
 grind
theorem zAa (u:qE c d) {s:Int} (n0:0<=f3) (n1:f3<=1073741824) {i:It} (A:Ps i) {h:Hd} (B:S5 c d s i f3 h):ZH h.p:=by
 have W:=u.n;by_cases E:h.e=0
 .obtain⟨a,_,M⟩:=B.yes E
  rcases M with⟨_,e,_⟩|⟨_,e,_⟩|⟨_,e,_⟩|⟨_,k,C,hk,⟨hs,O⟩,e⟩|⟨_,x,R,S,e⟩
  .rw[e];exact sv2 13 _ _ (.inl Z) zB zB
  .have U:=u.v.n4;have hb:=iz u;have hl:=XJ d.rq;have G:=dS (gC d.rq);rw[e];refine⟨rfl,by dsimp only[QL];omega,hb,by dsimp only[QL];omega,λx z=>(by cases z),.inr Z,.inr ⟨.inl Z,(ln d.rq:Int),?_,zB,by show(0:Int)<=_;omega,by show _<=(4:Int);omega⟩,?_⟩
   .show((gC d.rq).length:Int)=0+2*(ln d.rq:Int)
    omega
   .show(((gC d.rq).map jQ).flatten).length+1+0<=200
    omega
  .have I:=u.t8;have hv:=u.vh;have Y:=u.q;have V:=u.a.q;have hl:=u.bl;have hb:=u.a.b;have L:RU d.rg.tk<=8:=by rw[<-I];exact zCw _ _
   rw[e];have G:=dS (aD d).args;refine⟨rfl,by dsimp only[aD];omega,.cons zB (.cons zB (.cons zB (.cons zB .nil))),by simp[aD],λx z=>(by cases z),.inr Z,.inl ⟨rfl,rfl⟩,?_⟩
   grind [ZH,aD,jQ]
  .rw[e];have G:=dS [(k:Int)];refine⟨rfl,by dsimp only;omega,.cons zB .nil,by simp,?_,.inr ?_,.inl ⟨rfl,rfl⟩,?_⟩
   .intro x z;simp only[zCt]at z
    rcases z with rfl|rfl|z
    .omega
    .omega
    .exact O x z
   .show((d.rg.num::(k:Int)::C).length:Int)=10
    grind
   all_goals grind
  .rw[e];exact sv2 14 _ _ (.inr (.inl Z)) (by have:=A.k;omega) ⟨R,S⟩
 .have hb:=B.eb A.c;rw[(B.no E).2.1];exact sv2 15 _ _ (.inr (.inr Z)) (by have:=A.k;omega) zB
def KV (f3:Int) (l:List Rq):Prop:=∀r∈l,∀g∈r.legs,g.sc<=f3
theorem KV.mono {a b:Int} (h:KV a l) (u:a<=b):KV b l:=λr A g z=>Int.le_trans (h r A g z) u
theorem KV.of (C:0<=f3) {u:List Rq} (h:KV f3 l) (B:WH l u):KV f3 u:=λr A g z=>by
 rcases B r A g z with h1|⟨r0,h1,_,g0,h2,_,_,h3⟩
 .omega
 .rw[<-h3];exact h r0 h1 g0 h2
theorem KV.mk (G:0<=f3) (h:KV f3 l):KV f3 (DA l f3):=λr B g A=>by
 unfold DA at B;obtain⟨E,z,rfl⟩:=zCl.1 B;unfold mkR at A;obtain⟨C,u,rfl⟩:=zCl.1 A;unfold fE;have:=h E z C u;split
 .split
  .exact zDg _
  .exact this
 .show(-1:Int)<=f3
  omega
theorem Ej {s:Nat} (M:0<=f3) (O:f3<=1073741824) {u:List It} (I:∀x∈u,Ps x) {f:Nat->TS} (z:∀e∈(f 0).en,Fj e) (E:(f 0).rs=[])
 (L:∀k,k<ln u->P8 c (s:Int) f3 (u.getD k dd) (f k) (f (k+1))) (hd:∀k,DD c d (f k).d):∀k,k<=ln u->(∀m∈(f k).rs,ZH m)/\(∀e∈(f k).en,Fj e)/\WH (f 0).d.rq (f k).d.rq
 |0,_=>⟨λm A=>(by rw[E]at A;cases A),z,WH.refl _⟩
 | k+1,hk=>by
  obtain⟨S,U,V⟩:=Ej M O I z E L hd k zB;obtain⟨h,_,C,hb⟩:=L k zB;have G:=(hd k).i;have B:=I _ (yB u k zB);have R:=G.n;rw[hb];refine⟨λm A=>?_,λe z=>?_,V.trans C.sc⟩
  .rcases zBs.1 A with A|A
   .exact S m A
   .rw[zB1.1 A];exact zAa G M O B C
  .rcases zBs.1 z with z|z
   .exact U e z
   .rw[zB1.1 z];exact⟨R,B.k,C.eb B.c⟩
structure DR where
 d:wE
 R:List (List Ms)
 en:List En
 ks:List Int
def Dj (r:DR):AV:=Yw r.d r.R r.en r.ks
structure N9 (c:Cf) (f3:Int) (d:wE) (ins:List In) (r:DR):Prop where
 i:qE c r.d
 ag:r.d.rg.ag=d.rg.ag
 num:r.d.rg.num=d.rg.num
 rn:r.R.length=d.au.length
 rv:∀l∈r.R,l.length<=1000/\∀m∈l,ZH m
 el:r.en.length<=2000
 en:∀e∈r.en,Fj e
 kl:r.ks.length<=2000
 ks:∀x∈r.ks,0<=x/\x<(c.js.length:Int)
 sc:KV f3 d.rq->KV f3 r.d.rq
 na:Yi d.rg.tk->Yi r.d.rg.tk/\r.d.au=Vg ins d.au
theorem v7 (h:∀i∈ins,HL i) (s:Nat):∀x∈cO ins s,Ps x:=by grind [HL,cO,yB]
theorem Cj (G:0<=f3) (I:f3<=1073741824) (z:∀i∈ins,HL i) {d:wE} {u:Nat->SS} (C:u 0=⟨d,[],[],[]⟩) (E:∀s,DD c d (u s).d/\sw c f3 ins s (u s) (u (s+1))):
  ∀s,(∀l∈(u s).R,ln l<=1000/\∀m∈l,ZH m)/\(∀e∈(u s).en,Fj e)/\WH d.rq (u s).d.rq
 |0=>by rw[C];exact⟨λl hl=>(by cases hl),λe S=>(by cases S),WH.refl _⟩
 |s+1=>by
  obtain⟨W,Y,i5⟩:=Cj G I z C E s;obtain⟨f,A,M,B,O⟩:=(E s).2;have V:=(HA (λi hi=>(z i hi).b) s).1;obtain⟨r1,r2,L⟩:=Ej G I (v7 z s) (d:=(u s).d) (f:=f) (by rw[A];exact Y) (by rw[A]) M (λk=>(B k).1) _ (zBb _);rw[O];dsimp only;have U:=(B (cO ins s).length).2.1;refine⟨λl hl=>?_,r2,i5.trans (by rw[A]at L;exact L)⟩
  rcases zBs.1 hl with hl|hl
  .exact W l hl
  .rw[zB1.1 hl];exact⟨zB,r1⟩
theorem Bj (m:List In) (k s:Nat):(m++pb k dd).getD s dd=m.getD s dd:=by grind
theorem Ns (m:List In) (k s:Nat):cO (m++pb k dd) s=cO m s:=by
 unfold cO;rw[Bj];by_cases h:s<ln m
 .simp[h,show s<ln m+k by omega]
 .rw[show m.getD s dd=dd by grind,Os (λh=>by cases h.2),Os (λh=>by cases h.2)]
theorem Ls (m:List In) (k:Nat) (l:List Bool):Vg (m++pb k dd) l=Vg m l:=by
 unfold Vg
 congr 1
 funext s b
 unfold QN;rw[Bj];by_cases h:s<ln m
 .simp[h,show s<ln m+k by omega]
 .rw[show m.getD s dd=dd by grind,Os (λh=>by cases h.2),Os (λh=>by cases h.2)]
def Js (m:List In) (k:Nat) (d:wE):Zq d (m++pb k dd)=Zq d m:=by
 unfold Zq;rw[Ls]
def Is (c:Cf) (f3:Int) (m:List In) (k s:Nat) (a b:SS):sw c f3 (m++pb k dd) s a b=sw c f3 m s a b:=by
 unfold sw;rw[Ns]
def Aj (c:Cf) (d:wE) (C:qE c d) (ins:List In) (O:ln ins=ln d.au) (G:∀i∈ins,HL i) (f3:Int) (A:0<=f3) (E:f3<=1073741824):
  ∃r:DR,N9 c f3 d ins r/\zO 115 [wD c,zM d,zE uI ins,iA f3] [] (Dj r) []/\∀m k,ins=m++pb k dd->zO 56 [wD c,zM d,zE uI m,iA f3] [] (Dj r) []:=by
 have z:∀i∈ins,zz i:=λi hi=>(G i hi).b
 have M:ln d.au=1\/d.au.length=2:=by have:=C.au;have:=C.a.e;omega
 obtain⟨u,L,B⟩:=iw c f3 A E ins z (Zq d ins) (O8 C ins);have S:=Cj A E G L (λs=>⟨(B s).1,(B s).2.2⟩) (ln d.au);obtain⟨hT,⟨e1,W,e3,U⟩,_⟩:=B (ln d.au);refine⟨⟨Zw (u (ln d.au)).d f3,(u (ln d.au)).R,(u (ln d.au)).en,(u (ln d.au)).ks⟩,⟨N8 hT.i f3 A E,hT.a,hT.n,e1,S.1,by dsimp only;omega,S.2.1,by dsimp only;omega,U,λV=>KV.mk A (KV.of A V S.2.2),hT.t⟩,?_,λm k e=>?_⟩
 .show zO 115 [wD c,zM d,zE uI ins,iA f3] [] (Yw (Zw (u (ln d.au)).d f3) (u (ln d.au)).R (u (ln d.au)).en (u (ln d.au)).ks) []
  rcases M with I|I
  .rw[I];exact Ji C ins zB z f3 A E u L I zB B
  .rw[I];exact Ii C ins zB z f3 A E u L I zB B
 .subst e;simp only[Js,Is]at L B;exact Xw C m (by rw[zBa]at O;omega) (λi hi=>z i KG) f3 A E u L B
open Classical in
noncomputable def ZI (c:Cf) (d:wE) (ins:List In) (f3:Int):DR:=if h:∃r:DR,N9 c f3 d ins r/\zO 115 [wD c,zM d,zE uI ins,iA f3] [] (Dj r) []/\∀m k,ins=m++pb k dd->zO 56 [wD c,zM d,zE uI m,iA f3] [] (Dj r) []then h.choose else⟨dd,[],[],[]⟩
def Eg (c:Cf) (d:wE) (A:qE c d) (ins:List In) (u:ln ins=ln d.au) (z:∀i∈ins,HL i) (f3:Int) (B:0<=f3) (C:f3<=1073741824):
  N9 c f3 d ins (ZI c d ins f3)/\zO 115 [wD c,zM d,zE uI ins,iA f3] [] (Dj (ZI c d ins f3)) []/\∀m k,ins=m++pb k dd->zO 56 [wD c,zM d,zE uI m,iA f3] [] (Dj (ZI c d ins f3)) []:=by
 have h:=Aj c d A ins u z f3 B C;unfold ZI;rw[zGk h];exact h.choose_spec
theorem eO (c:Cf) (d:wE) (ins:List In) (f3:Int):(ZI c d ins f3).en.length<=2000/\(ZI c d ins f3).ks.length<=2000:=by
 unfold ZI;split
 .rename_i h;have:=h.choose_spec.1;exact⟨this.el,this.kl⟩
 all_goals grind
end
def Aa (ins:List In) (b k:Nat):List In:=(pi k).map λj=>ins.getD (b+j) dd
variable {R:Nat->DR}
def zk (ins:List In) (b k:Nat):Aa ins b (k+1)=Aa ins b k++[ins.getD (b+k) dd]:=by simp[Aa,zC5]
def DJ (c:Cf) (ins:List In) (a:Nat):List In:=Aa ins (uF c.ags a).toNat (c.ags.getD a dd).ses.toNat
def Ox (r:DR):AV:=zE kW r.R
def PM (f3:Int) (ds:List wE) (i:Nat):List wE:=ZA (λ_ d=>XL d f3) ds i
def dB (f3:Int) (ds:List wE) (u:Nat->DR) (i:Nat):List wE:=(pi (ln ds)).map λk=>if k<i then(u k).d else XL (ds.getD k dd) f3
def aj (n:Nat) (u:Nat->DR) (i:Nat):List AV:=(pi n).map λk=>if k<i then Ox (u k)else .s (.slice none 0 0)
def XT (u:Nat->DR) (i:Nat):List En:=((pi i).map λk=>(u k).en).flatten
def dF (u:Nat->DR) (i:Nat):List Int:=((pi i).map λk=>(u k).ks).flatten
def OV (u:Nat->DR) (i:Nat):XT u (i+1)=XT u i++(u i).en:=by simp[XT,zC5]
def OW (u:Nat->DR) (i:Nat):dF u (i+1)=dF u i++(u i).ks:=by simp[dF,zC5]
theorem UC {u:Nat->DR} (h:∀i,(u i).en.length<=2000):∀i,(XT u i).length<=2000*i
 |0=>zBn _
 |i+1=>by
  have:=UC h i;have:=h i;rw[OV,zBa];omega
theorem UD {u:Nat->DR} (h:∀i,(u i).ks.length<=2000):∀i,(dF u i).length<=2000*i
 |0=>zBn _
 |i+1=>by
  have:=UD h i;have:=h i;rw[OW,zBa];omega
theorem YO (n i:Nat) (f g:Nat->α) (hi:i<n):((pi n).map λk=>if k<i+1 then f k else g k)=((pi n).map λk=>if k<i then f k else g k).set i (f i):=by apply zCf<;>grind [List.length_map,List.length_range,List.getElem?_range,List.getElem?_eq_none]
theorem UE (n i:Nat) (f g:Nat->α) (hi:i<n):((pi n).map λk=>if k<i then f k else g k)[i]? =some (g i):=by grind
theorem Dg (n:Nat) (f g:Nat->α):((pi n).map λk=>if k<n then f k else g k)=(pi n).map f:=by grind [List.map_congr_left]
theorem hG {l:List Ag} (h:QT l) {i j:Nat} (u:i<=j) (hj:j<=ln l):uF l i<=uF l j:=by
 induction j with
 |zero=>rw[show i=0 by omega];exact zDg _
 |succ j z=>
  grind [QT,uF]
theorem Cg (c:Cf) (L:QT c.ags) (f3:Int) (n0:0<=f3) (n1:f3<=1073741824) (ds:List wE) (a5:ln ds=ln c.ags) (V:∀i,i<ln ds->qE c (ds.getD i dd)) (ins:List In) (b1:(ln ins:Int)<=uF c.ags (ln c.ags))
  (u:Nat->DR) (ap:∀i,(u i).en.length<=2000) (ar:∀i,(u i).ks.length<=2000) (hr:∀i,i<ln ds->zO 115 [wD c,zM (XL (ds.getD i dd) f3),zE uI (DJ c ins i),iA f3] [] (Dj (u i)) [])
  (A B C:List AV) (a2 a3 a4:Nat) (vw:List Vw):
  zO 46 [ZB c false f3 (.ref 1011 0 (ds.map zM).length) (.ref 1012 0 a2) (.ref 1013 0 a3) (.ref 1014 0 a4) (zE vV vw),zE uI ins] [(1011,.arr 17 (ds.map zM) false),(1012,.arr 5 A false),(1013,.arr 3 B false),(1014,.arr 1 C false)]
   (.tup [.sl false ((pi (ln ds)).map λk=>Ox (u k)),zE kG (XT u (ln ds)),zE iA (dF u (ln ds))]) [(1011,.arr 17 ((dB f3 ds u (ln ds)).map zM) false),(1012,.arr 5 A false),(1013,.arr 3 B false),(1014,.arr 1 C false)]:=by
 have a6:=zA zM ds;have ax:=zA vP c.ags;have b4:=L.1;have az:∀i,(PM f3 ds i).length=ln ds:=λi=>wP _ _ _
 have a1:∀i,((PM f3 ds i).map zM).length=ln ds:=λi=>by rw[zA6,az]
 have G:PM f3 ds 0=ds:=qQ _ _;unfold ZB;refine eM call46 λF hF=>?_
 refine WW ?_;refine zN (ln ds) [1011,2,3,1012,1013,1014] [2,3,1012,1013,1014] [2,3,21,57] [22,2,3,21,57] Z (λi T U=>⟨(22,iA i)::T,(1011,.arr 17 ((PM f3 ds i).map zM) false)::U⟩) ?_;(conv=>whnf);refine⟨by(rw[G];rfl),?_,?_⟩
 .intro i hi
  have hy:((PM f3 ds i).map zM)[i]? =some (zM (ds.getD i dd)):=by
   rw[zBe];unfold PM;rw[vY,zA5 hi,Os (zD3 i)];rfl
  have e:(PM f3 ds (i+1)).map zM=((PM f3 ds i).map zM).set i (zM (XL (ds.getD i dd) f3)):=by unfold PM;rw[vO _ _ _ _ hi]
  have kb:=dq (V i hi) f3;have ba:=a1 i;rw[e];clear e hr V G;generalize XL (ds.getD i dd) f3=d2 at *;generalize ds.getD i dd=d1 at *;generalize (PM f3 ds i).map zM=X at *;refine zS kb ?_;rfl
 .have ac:(PM f3 ds (ln ds)).map zM=(dB f3 ds u 0).map zM:=by
   congr 1
   unfold dB;apply zCf;intro j;unfold PM;rw[vY,zBe];by_cases hj:j<ln ds
   .rw[zA5 hj,zA5 hj,zC1 hj];simp
   .rw[Os hj,zCh qD];rfl
  rw[ac];refine WW ?_;have au:min (ln ds:Int) (ln c.ags:Int)=(ln ds:Int):=by rw[a5];exact zGx _
  rw[a6,ax,au]
  have av:aj (ln ds) u 0=pb (ln ds) (.s (.slice none 0 0)):=by
   unfold aj;apply zCf;intro j;rw[zBe,zDq];by_cases hj:j<ln ds
   .rw[zC1 hj,zA5 hj];simp
   .rw[Os hj,zCh qD];rfl
  have a8:∀i,(aj (ln ds) u i).length=ln ds:=λi=>by unfold aj;rw[zA6,zCr]
  have a9:∀i,((dB f3 ds u i).map zM).length=ln ds:=λi=>by unfold dB;rw[zA6,zA6,zCr]
  refine zQ 9 1042 3 Z Z Z ?_;refine zQ 10 1043 1 Z Z Z ?_;refine zN (ln ds) [41,1011,1042,1043,2,3,1012,1013,1014] [2,3,1012,1013,1014] [2,3,8,49,57] [9,10,50,2,3,8,49,57] Z (λi T U=>⟨(9,.ref 1042 0 ((XT u i).map kG).length)::(10,.ref 1043 0 ((dF u i).map iA).length)::(50,iA i)::T,(41,.arr 1 (aj (ln ds) u i) false)::(1011,.arr 17 ((dB f3 ds u i).map zM) false)::(1042,.arr 3 ((XT u i).map kG) true)::(1043,.arr 1 ((dF u i).map iA) true)::U⟩) ?_;(conv=>whnf);refine⟨by(rw[av];rfl),?_,?_⟩
  .intro i hi;have a7:i<ln c.ags:=by omega
   have hy:((dB f3 ds u i).map zM)[i]? =some (zM (XL (ds.getD i dd) f3)):=by
    rw[zBe];unfold dB;rw[UE _ _ _ _ hi];rfl
   have e1:(dB f3 ds u (i+1)).map zM=((dB f3 ds u i).map zM).set i (zM (u i).d):=by
    unfold dB;rw[YO _ _ _ _ hi,zCs]
   have e2:aj (ln ds) u (i+1)=(aj (ln ds) u i).set i (Ox (u i)):=by
    unfold aj;rw[YO _ _ _ _ hi]
   have b6:(aj (ln ds) u i)[i]? =some (.s (.slice none 0 0)):=by
    unfold aj;exact UE _ _ _ _ hi
   have ba:=a9 i;have bu:=a8 i;have bz:=UC ap i;have b2:=UD ar i;have bd:=ap i;have bl:=ar i;have b0:=zA kG (XT u i);have b3:=zA iA (dF u i);have bf:=zA kG (u i).en;have br:=zA iA (u i).ks;have ks:=Ve c i;have E:=hr i hi;have ht:=Yk c L i a7;rw[e1,e2,OV,OW,zBd,zBd];clear e1 e2 hr V G av ac;unfold Dj Yw at E
   change zO 115 [_,_,_,_] [] (.tup [_,Ox (u i),_,_]) []at E
   generalize XL (ds.getD i dd) f3=D1,(u i).d=D2 at *;rw[show Ox (u i)= .sl false ((u i).R.map kW)from Z]at *; generalize (u i).R.map kW=R2,(dB f3 ds u i).map zM=X,aj (ln ds) u i=Y,(XT u i).map kG=M,(dF u i).map iA=S at *;rw[show zE kG (u i).en= .sl false ((u i).en.map kG)from Z,show zE iA (u i).ks= .sl false ((u i).ks.map iA)from Z]at E;unfold zE at E;unfold zM xD at hy E⊢;unfold qh at ks ht;unfold wD at ks E;refine zS ks ?_;obtain⟨z,ag⟩:∃z:Nat,uF c.ags i=(z:Int):=⟨(uF c.ags i).toNat,by have:=vT L i zB;omega⟩;obtain⟨N,hN⟩:∃N:Nat,(c.ags.getD i dd).ses=(N:Int):=⟨(c.ags.getD i dd).ses.toNat,by have:=L.at (i:=i) zB;omega⟩;have bx:=vT L i zB;have W:=L.at (i:=i) zB;have hL:HQ c i=(pi N).map λk=>[Zk i k (z+k)]:=by unfold HQ;rw[ag,hN];rfl
   rw[show DJ c ins i=Aa ins z N by unfold DJ;rw[ag,hN];rfl]at E;rw[hN]at W;have bk:=zA uI ins;refine gL 12 0 1041 2 Z Z Z Z Z ?_
   refine qR hF ht Z [2,3,12,41,1011,1012,1013,1014,1041,1042,1043] [2,3,8,9,10,11,12,49,50] Z Z Z Z Z Z Z Z Z (λk ys h=>?_) (λk=>[(2,.box [zE wK c.js,zE vP c.ags,iA c.per,iA c.cap,iA c.hold,iA c.lock,bA false,iA f3,.ref 1011 0 (ln ds),.ref 1012 0 a2,.ref 1013 0 a3,.ref 1014 0 a4,zE vV vw]),(3,.box [zE uI ins]),(12,.box [.ref 1041 0 ((Aa ins z k).map uI).length]),(41,.arr 1 Y false),(1011,.arr 17 X false),(1012,.arr 5 A false),(1013,.arr 3 B false),(1014,.arr 1 C false),(1041,.arr 2 ((Aa ins z k).map uI) true),(1042,.arr 3 M true),(1043,.arr 1 S true)]) (λ_=>True)
    (T:=[(2,.ptr 2 0 0),(3,.ptr 3 0 0),(8,.ref 41 0 (ln ds)),(9,.ref 1042 0 (ln M)),(10,.ref 1043 0 (ln S)),(11,iA i),(12,.ptr 12 0 0),(49,iA (ln ds)),(50,iA i)]) Z trivial (λk ys y I V F1 h1 h2=>?_) (λV=>?_)
   .rw[hL,zBe,zBp]at h;obtain⟨x,_,rfl⟩:=h;rfl
   .have hk:k<N:=by
     have:=(zBw.1 I).1;rw[hL,zA6,zCr]at this;exact this
    rw[hL,zBe,zC1 hk]at I;obtain rfl:=zEg I;have b5:((Aa ins z k).map uI).length=k:=by unfold Aa;rw[zA6,zA6,zCr]
    rw[zk,zBd];generalize (Aa ins z k).map uI=O at *;by_cases hq:z+k<ln ins
    .have bb:=zJ uI ins (z+k) hq;generalize ins.getD (z+k) dd=x at *;rw[show [x].map uI=[.agg [bA x.opn,zE vE x.its]]from Z];unfold uI at bb;refine WW ?_;refine⟨rfl,λF2 g1 g2=>?_⟩;refine WW ?_;exact⟨rfl,trivial⟩
    .rw[show [ins.getD (z+k) dd].map uI=[.agg [bA false,.sl false []]] by rw[zBj,zCh zB];rfl];refine WW ?_;refine⟨rfl,λF2 g1 g2=>?_⟩
     (repeat' (first|refine jX ?_|apply yW|apply xH|intro hc|(apply zG;first|(apply yI;refine ZR 69 Z Z Z ?_;refine vD tok Z Z ?_))|refine SB ?_|fail))
     exact⟨rfl,trivial⟩
   .rw[show(HQ c i).length=N by rw[hL,zA6,zCr]];generalize Aa ins z N=O at*
    show uG _ _ _ _ ⟨_,_⟩ _
    refine wB [2,3,12,41,1011,1012,1013,1014,1042,1043] [2,3,8,9,10,11,12,49,50] Z ?_
    (conv=>whnf)
    simp only[zBr,zA8];clear ks ht hL hN W;refine zS E ?_;rfl
  .rw[aj,Dg];refine WW ?_;refine zI [1011,1012,1013,1014] Z Z ?_ Z
   show AV.tup [.sl false (py (ln ds) (List.map (λk=>Ox (u k)) (pi (ln ds)))),.sl false (py ((XT u (ln ds)).map kG).length ((XT u (ln ds)).map kG)),.sl false (py ((dF u (ln ds)).map iA).length ((dF u (ln ds)).map iA))]=_
   rw[zBf (by rw[zA6,zCr];exact zBb _),zA8,zA8];rfl
structure JI (j:Jn) (s:Sg) (v:Sv) (f3:Int):Prop where
 c:CV j s.c
 n:v.en.length=j.ph.length
 e:∀e∈v.en,-1<=e/\e<=f3
 g:0<=v.gr/\v.gr<=60
theorem Rb (g:Cf) (s:Sv) (l:List Cl) (f3:Int) (h:0<=s.gr/\s.gr<=60):0<=(uV g s l f3).gr/\(uV g s l f3).gr<=60:=by
 unfold uV;split
 .grind
 .unfold fL;split
  .exact⟨zDg _,(by decide:(0:Int)<=60)⟩
  .exact h
theorem zAb {j:Jn} (J:JV j) {s:Sg} {v:Sv} (u:0<=f3) (H:JI j s v f3) (g:Cf) (l:List Cl) (k:Int):JI j (ab g j s v l k f3).1 (ab g j s v l k f3).2 f3:=by
 refine⟨Az J H.c g v l k f3,?_,?_,?_⟩
 .unfold ab;split
  .exact(ST _ _).trans H.n
  .split
   .exact(ST _ _).trans ((YR ..).trans H.n)
   .dsimp only;unfold gO;split
    all_goals exact(YR ..).trans H.n
 .have hd:=Lk g v l f3 u H.e;unfold ab;split
  .exact NJ _ _ u H.e
  all_goals grind [ab,NJ,gO]
 .have hd:=Rb g v l f3 H.g;unfold ab;split
  .exact⟨zDg _,(by decide:(0:Int)<=60)⟩
  .split
   .exact⟨zDg _,(by decide:(0:Int)<=60)⟩
   all_goals grind [ab,gO]
theorem yk:∀(l f4:List Lg),kO f4 l=true->∀g∈l,QW g=true
 | [],_,_,g,u=>by cases u
 |x::l,f4,h,g,u=>by
  unfold kO at h;simp only[zBg]at h
  rcases zCt.1 u with rfl|u
  .exact h.1
  .exact yk l _ h.2.2 g u
def xk {P:Program} {st:St} {C E G:Nat} {x y z:Operand} {k:IntKind} {m n l:Int} (M:yX (zK st.tm) x= .s (.int k m)) (O:yX (zK st.tm) y= .s (.int k n)) (S:yX (zK st.tm) z= .s (.int k l)):vA P st (.call ⟨.builtin .min, #[x,y,z], #[C,E,G]⟩) (.s (.int k (min (min m n) l))) [] [] []:=
 yZ λU X tm h w β a B A hr V u=>by
  obtain⟨d0,o0,y0,p0,W,Y⟩:=U;dsimp only at B;subst B;have h1:=vS u A (x:=x) kS M;have h2:=vS u A (x:=y) kS O;have L:=vS u A (x:=z) kS S;refine⟨.int k (min (min m n) l),?_,.fz _ _ (.s _)⟩;have e1:(if n<m then n else m)=min m n:=by omega
  have I:(if l<min m n then l else min m n)=min (min m n) l:=by omega
  simp[execOp,resolve,invoke,builtin,Builtin.min_,Builtin.min2,h1,h2,L,e1,I]
def DK {P:Program} {st:St} {op:Op} {v:AV} {d:List (Nat×xV)} {r nw:List Nat} (G:vA P st op v d r nw) (E:(xB d).all (r.contains ·)=true) (A:(xB d).map (zD st.h)=(xB d).map (zD d)):vA P st op v [] r nw:=
 ⟨λX I h B hh C=>by
  have h1:=G.run X I h B hh C
  have e:over d h=over [] h:=funext λk=>by
   unfold over
   cases hk:zD d k with
   |none=>rfl
   |some e=>
    have u:=uJ hk;obtain⟨i,hi⟩:=zEo u;have e1:=zBq (·[i]?) A;have z:zD st.h k=zD d k:=by simpa [hi]using e1
    have e3:=hh k (by have:=zBk.1 E k u;simpa using this)
    show some e=h k
    rw[e3,z,hk]
  rwa [e]at h1⟩
theorem vk {A j:Int} {x:Rq} {c:Cl} (h:c∈NA A j x) (u:RqO x) (C:0<=f3) (B:∀g∈x.legs,g.sc<=f3):(0<=c.k/\c.k<=3)/\(0<=c.si/\c.si<=f3):=by
 unfold NA at h;split at h
 .cases h
 .split at h
  .cases h
  .rename_i h1;rw[zB1]at h;subst h;dsimp only;refine⟨⟨u.c0,u.c1⟩,?_⟩;by_cases hi:(TN (λr:Lg=>r.jn==j) x.legs).toNat<ln x.legs
   .have z:=yB x.legs _ hi;have hl:=u.lg;unfold BG at hl;rw[zBg]at hl;have:=B _ z;have hv:=yk _ _ hl.2 _ z
    grind [NA,TN,QW]
   .rw[zBj,zCh zB]
    show(0:Int)<=0/\(0:Int)<=f3
    omega
def DL {j:Int} (B:∀d∈ds,qE c d) (E:0<=f3) (C:∀d∈ds,KV f3 d.rq):∀x∈jI j ds,(0<=x.k/\x.k<=3)/\(0<=x.si/\x.si<=f3):=λx u=>by
 unfold jI at u;obtain⟨y,z,u⟩:=zFc.1 u;obtain⟨d,hd,rfl⟩:=zCl.1 z;unfold fK at u;obtain⟨y,z,u⟩:=zFc.1 u;obtain⟨r,A,rfl⟩:=zCl.1 z;exact vk u ((B d hd).v.ok r A) E (C d hd r A)
theorem SI (j:Int):∀l:List wE,(∀d∈l,ln d.rq<=4)->(jI j l).length<=4*ln l
 | [],_=>zBb _
 |d::l,h=>by
  have h1:=dX d.rg.num j d.rq;have h2:=SI j l (λx u=>h x (by simp[u]));have z:=h d zV;have e:jI j (d::l)=fK d.rg.num j d.rq++jI j l:=rfl;rw[e,zBa,zBl];omega
def ZJ (c:Cf) (u:List Sg) (sv:List Sv) (st:List Int) (ds:List wE) (f3:Int) (k:Nat):Sg×Sv:=ab c (c.js.getD k dd) (u.getD k dd) (sv.getD k dd) (jI (k:Int) ds) (st.getD k dd) f3
def YP (D:Nat->Sg×Sv) (l:List Sg) (i:Nat):List Sg:=ZA (λk _=>(D k).1) l i
def YQ (D:Nat->Sg×Sv) (l:List Sv) (i:Nat):List Sv:=ZA (λk _=>(D k).2) l i
def XU (l:List Int) (i:Nat):List Int:=ZA (λ_ _=> -1) l i
def Bg (u:List Jn) (D:Nat->Sg×Sv) (n i:Nat):List AV:=(pi n).map λk=>if k<i then vV (QR (u.getD k dd) (D k).1 (D k).2)else .agg [bA false,bA false,.s (.slice none 0 0),.s (.slice none 0 0)]
def M9 (c:Cf) (f3:Int) (ds:List wE) (v:AV) (u:List Sg) (sv:List Sv) (st:List Int):List (Nat×xV):=
 [(2,.box [zE wK c.js,zE vP c.ags,iA c.per,iA c.cap,iA c.hold,iA c.lock,bA false,iA f3,zE zM ds,.ref 1012 0 (u.map vG).length,.ref 1013 0 (sv.map wW).length,.ref 1014 0 (st.map iA).length,v]),(1012,.arr 5 (u.map vG) false),(1013,.arr 3 (sv.map wW) false),(1014,.arr 1 (st.map iA) false)]
theorem uk (c:Cf) (hv:qb c) (f3:Int) (n0:0<=f3) (n1:f3<=1000000000) (ds:List wE) (a4:ln ds<=4) (V:∀d∈ds,qE c d) (hs:∀d∈ds,KV f3 d.rq) (u:List Sg) (sv:List Sv) (st:List Int) (vw:List Vw)
  (hg:ln u=ln c.js) (L:ln sv=ln c.js) (I:ln st=ln c.js) (hj:∀k,k<ln c.js->JI (c.js.getD k dd) (u.getD k dd) (sv.getD k dd) f3):
  zO 48 [.ptr 2 0 0] (M9 c f3 ds (zE vV vw) u sv st) (.tup [])
   (M9 c f3 ds (.ref 1015 0 (ln c.js)) (YP (ZJ c u sv st ds f3) u (ln c.js)) (YQ (ZJ c u sv st ds f3) sv (ln c.js)) (XU st (ln c.js))++[(1015,.arr 4 (Bg c.js (ZJ c u sv st ds f3) (ln c.js) (ln c.js)) false)]):=by
 have ag:=zA wK c.js;have ac:=zA vG u;have ar:=zA wW sv;have ap:=zA iA st;have a5:=hv.j;unfold M9;refine eM call48 λF hF=>?_
 (repeat' (first|refine uT ?_|apply yW|apply xH|intro hc|(apply zG;first|(apply zG;refine wJ (xk Z Z Z) Z ?_)|(apply fN;refine bG 1015 tok Z Z Z Z Z Z Z Z Z Z Z Z Z zB zB Z Z Z ?_))|fail))
 rw[ag,ac,ar,hg,L,zGx,zGx]
 (repeat' (first|refine uT ?_|apply yW|apply xH|intro hc|(apply zG;first|(apply fN;refine bG 1015 tok Z Z Z Z Z Z Z Z Z Z Z Z Z zB zB Z Z Z ?_))|fail))
 have M:∀D,Bg c.js D (ln c.js) 0=pb (ln c.js) (.agg [bA false,bA false,.s (.slice none 0 0),.s (.slice none 0 0)]):=λD=>by
  unfold Bg;apply zCf;intro j;rw[zBe,zDq];by_cases hj:j<ln c.js
  .rw[zC1 hj,zA5 hj];simp
  .rw[Os hj,zCh qD];rfl
 have hC:=SI;have C:∀D,YP D u 0=u:=λD=>qQ _ _
 have G:∀D,YQ D sv 0=sv:=λD=>qQ _ _
 have E:XU st 0=st:=qQ _ _;have z:∀D i,((YP D u i).map vG).length=ln c.js:=λD i=>by unfold YP;rw[zA6,wP,hg]
 have B:∀D i,((YQ D sv i).map wW).length=ln c.js:=λD i=>by unfold YQ;rw[zA6,wP,L]
 have A:∀i,((XU st i).map iA).length=ln c.js:=λi=>by unfold XU;rw[zA6,wP,I]
 have O:∀D i,(Bg c.js D (ln c.js) i).length=ln c.js:=λD i=>by unfold Bg;rw[zA6,zCr]
 rw[ap,I,z,B,A];refine zN (ln c.js) [1012,1013,1014,1015,2] [2] [0,28] [29,0,28] Z (λi T U=>⟨(29,iA i)::T,(1012,.arr 5 ((YP (ZJ c u sv st ds f3) u i).map vG) false)::(1013,.arr 3 ((YQ (ZJ c u sv st ds f3) sv i).map wW) false)::(1014,.arr 1 ((XU st i).map iA) false)::(1015,.arr 4 (Bg c.js (ZJ c u sv st ds f3) (ln c.js) i) false)::U⟩) ?_;(conv=>whnf);refine⟨by(rw[C,G,E,M];rfl),?_,?_⟩
 .intro i hi;have a9:=zJ wK c.js i hi;have a8:((YP (ZJ c u sv st ds f3) u i).map vG)[i]? =some (vG (u.getD i dd)):=by rw[zBe];unfold YP;rw[vY,zA5 zB,Os (zD3 i)];rfl
  have bb:((YQ (ZJ c u sv st ds f3) sv i).map wW)[i]? =some (wW (sv.getD i dd)):=by rw[zBe];unfold YQ;rw[vY,zA5 zB,Os (zD3 i)];rfl
  have ba:((XU st i).map iA)[i]? =some (iA (st.getD i dd)):=by rw[zBe];unfold XU;rw[vY,zA5 zB,Os (zD3 i)];rfl
  have bf:(Bg c.js (ZJ c u sv st ds f3) (ln c.js) i)[i]? =some (.agg [bA false,bA false,.s (.slice none 0 0),.s (.slice none 0 0)]):=UE _ _ _ _ hi;have eg:(YP (ZJ c u sv st ds f3) u (i+1)).map vG=((YP (ZJ c u sv st ds f3) u i).map vG).set i (vG (ZJ c u sv st ds f3 i).1):=by unfold YP;rw[vO _ _ _ _ zB]
  have ev:(YQ (ZJ c u sv st ds f3) sv (i+1)).map wW=((YQ (ZJ c u sv st ds f3) sv i).map wW).set i (wW (ZJ c u sv st ds f3 i).2):=by unfold YQ;rw[vO _ _ _ _ zB]
  have ek:(XU st (i+1)).map iA=((XU st i).map iA).set i (iA (-1)):=by unfold XU;rw[vO _ _ _ _ zB]
  have ew:Bg c.js (ZJ c u sv st ds f3) (ln c.js) (i+1)=(Bg c.js (ZJ c u sv st ds f3) (ln c.js) i).set i (vV (QR (c.js.getD i dd) (ZJ c u sv st ds f3 i).1 (ZJ c u sv st ds f3 i).2)):=YO _ _ _ _ hi;have J:=hv.jv _ (yB c.js i hi);have H:=hj i hi;have cl:(jI (i:Int) ds).length<=4*ln ds:=hC i ds λd hd=>(V d hd).v.n4
  have S:=DL (j:=(i:Int)) V n0 hs;have hp:=hv.p;have a3:=hv.cp;have a2:=J.n;have a1:=H.n;have HD:Nr c (sv.getD i dd) (jI (i:Int) ds) f3:=⟨hp.1,zB,zB,n0,n1,H.e,λx hx=>(S x hx).1,λx hx=>(S x hx).2,zB,zB⟩
  have kd:zO 117 [wD c,wK (c.js.getD i dd),vG (u.getD i dd),wW (sv.getD i dd),zE qZ (jI (i:Int) ds),iA (st.getD i dd),iA f3] [] (.tup [vG (ZJ c u sv st ds f3 i).1,wW (ZJ c u sv st ds f3 i).2]) []:=
   nt c _ J _ H.c _ _ _ f3 HD (by have:=Rb c (sv.getD i dd) (jI (i:Int) ds) f3 H.g;omega)
  have ko:=Uz (c.js.getD i dd) J (ZJ c u sv st ds f3 i).1 (Az J H.c _ _ _ _ _) (ZJ c u sv st ds f3 i).2;have kc:=uh c false f3 ds i zB (λd hd=>(V d hd).bd) ((YP (ZJ c u sv st ds f3) u i).map vG) ((YQ (ZJ c u sv st ds f3) sv i).map wW) (((XU st i).map iA).set i (iA (-1))) (Bg c.js (ZJ c u sv st ds f3) (ln c.js) i) (ln c.js) (ln c.js) (ln c.js) (ln c.js);have au:=z (ZJ c u sv st ds f3) i;have ax:=B (ZJ c u sv st ds f3) i;have av:=A i;have az:=O (ZJ c u sv st ds f3) i;rw[eg,ev,ek,ew];clear eg ev ek ew C G E M HD S hC z B A O hj H J;generalize (YP (ZJ c u sv st ds f3) u i).map vG=X,(YQ (ZJ c u sv st ds f3) sv i).map wW=Y,(XU st i).map iA=Z',Bg c.js (ZJ c u sv st ds f3) (ln c.js) i=W,ZJ c u sv st ds f3 i=p at *;generalize QR (c.js.getD i dd) p.1 p.2=w at *;generalize jI (i:Int) ds=l,u.getD i dd=s,sv.getD i dd=v,st.getD i dd=k,c.js.getD i dd=j at *;have a6:(X.set i (vG p.1))[i]? =some (vG p.1):=zB7 zB;have a7:(Y.set i (wW p.2))[i]? =some (wW p.2):=zB7 zB
  (have ga:=kd;have ge:=ko;(repeat' (first|refine uT ?_|apply yW|apply xH|intro hc|(apply zG;first|(refine vJ 38 ?_;refine wJ (DK (zL kc Z Z Z Z Z) Z Z) Z ?_))|fail))<;>clear ga ge)
  rfl
 ·(refine WW ?_)
  exact uX [2,1012,1013,1014,1015] Z Z Z Z
section
variable {P:Program} {K0:List Nat} {F:Fr K0} {m:Nat} {ops:Array Oper} {rest:List Oper} {fs:List FP} {tm:List (Nat×AV)} {h:List (Nat×xV)}
def Qb {Q:List FP->St->Prop} (t K sz:Nat) (hv:zK tm t= .s (.slice none 0 0)) (u:(zD h K).isNone=true) (z:Nat.ble 1 sz=true) (h1:yP P F m ops false rest ⟨(t,.ref K 0 0)::tm,(K,.arr sz [] true)::h⟩ fs Q):yP P F m ops false rest ⟨tm,h⟩ fs Q:=
 ⟨λa w R=>h1.run a w (wL.virt R t K sz hv u z)⟩
end
def Zz (m:Ms) (h:ZH m):zO 122 [zX m] [] (bA false) []:=by
 obtain⟨k,A,u,z⟩:=m;obtain⟨h1,h2⟩:=h;dsimp only at h1 h2;subst h1;have c:=Hz h2;rw[show zX ⟨k,[],u,z⟩= .agg [iA k,zE yA [],zE iA u,zE yA z]from Z]at *; refine eM call122 λF hF=>?_
 exact ng c
def u7 (l:List Ms) (z:ln l<=1000000) (h:∀m∈l,ZH m):zO 184 [zE zX l,.fn 122 []] [] (iA (-1)) []:=by
 have hl:=zA zX l;refine eM call184 λF hF=>?_
 refine WW ?_;refine zU (l) [] [] [0,1,7] [8,0,1,7] Z (λi f4 T U=>⟨(8,iA i)::T,U⟩) (Lq ?_ ?_)
 .intro i f4 x post u hi;have B:=yG zX u hi;have A:=zW u hi;have c:=Zz x (h x (yY u));clear u;refine zS c ?_;rfl
 .exact ly
def Yz (l:List Ms) (u:ln l<=1000000) (h:∀m∈l,ZH m):zO 121 [zE zX l,.fn 122 []] [] (zE zX l) []:=by
 have c:=u7 l u h;have hl:=zA zX l;refine eM call121 λF hF=>?_
 exact ng c
def DM (l:List Ms) (u:ln l<=1000000) (h:∀m∈l,ZH m):zO 51 [zE zX l] [] (zE zX l) []:=by
 have c:=Yz l u h;have hl:=zA zX l;refine eM call51 λF hF=>?_
 exact ng c
def qk (y:Int):0<=fW y/\fW y<256:=by
 unfold fW;have e:IntKind.u8.wrap y=y % 256:=by simp[IntKind.wrap,IntKind.signed,IntKind.bits]
 rw[e];omega
def jk {l:List Vw} (h:∀v∈l,Ua v):BY (aH l):=λx u=>by
 unfold aH at u;obtain⟨y,z,u⟩:=zFc.1 u;obtain⟨v,hv,rfl⟩:=zCl.1 z;have hb:=h v hv;have hc:=OP hb.c (ln v.co) (zBb _) hb.n;have A:=fX (ln v.co) hb.n;have B:=f5 (n:=vL v.co (ln v.co)) hc.1 zB;unfold j5 at u;simp only[zEl,zEf,zCt,zCl]at u
 rcases u with rfl|rfl|rfl|⟨y,_,rfl⟩
 .unfold EP
  split<;>split<;>omega
 .omega
 all_goals exact qk _
def Xz (l:List Rq) (v:List Vw) (f3:Int) (n:Nat):BY (VS l v f3 n):=λx u=>by
 unfold VS at u;obtain⟨i,_,rfl⟩:=zCl.1 u;unfold xe;split
 .have:=ye ((l.getD (i/3) dd).legs.getD (i % 3) dd) v f3;omega
 .omega
theorem Nx (d:wE) (B:0<=d.rg.ag.req/\d.rg.ag.req<=4) (v:List Vw) (f3:Int) (C:0<=f3) (E:f3<=1073741824) (A:ln v<=4) (hb:∀w∈v,Ua w):ZH (RY d v f3):=by
 have h1:=bD hb;have h2:=dS [f3];have z:(VS d.rq v f3 (d.rg.ag.req.toNat*3)).length=d.rg.ag.req.toNat*3:=by simp[VS]
 refine⟨rfl,by dsimp only[RY,dw];omega,.cons zB .nil,by simp[RY,dw],?_,.inl Z,.inl ⟨rfl,rfl⟩,?_⟩
 .intro x u
  rcases zBs.1 u with u|u
  .exact jk hb x u
  .exact Xz _ _ _ _ x u
 .show(([f3].map jQ).flatten).length+1+(aH v++VS d.rq v f3 (d.rg.ag.req.toNat*3)).length<=200
  grind
def QC (f3:Int) (v:List Vw):Ms:=⟨21,[],[f3],aH v⟩
theorem Wz (v:List Vw) (f3:Int) (z:0<=f3) (A:f3<=1073741824) (u:ln v<=4) (hb:∀w∈v,Ua w):ZH (QC f3 v):=by
 have h1:=bD hb;have h2:=dS [f3];refine⟨rfl,by dsimp only[QC];omega,.cons zB .nil,by simp[QC],jk hb,.inl Z,.inl ⟨rfl,rfl⟩,?_⟩
 grind [ZH,QC]
def Vz (f3:Int) (v:List Vw) (u:ln v<=1000) (hb:∀w∈v,Ua w):zO 52 [iA f3,zE vV v] [] (zX (QC f3 v)) []:=by
 have B:=Ap v u hb;have A:=zA yA (aH v);refine eM call52 λF hF=>?_
 refine zS B ?_;refine zI [] Z Z ?_ Z;exact zBq (λz=>AV.agg [iA 21,AV.sl false [],AV.sl false [iA f3],AV.sl false z]) zA8
def fJ (e:En):List Int:=[e.ag,e.ki,e.co]
def pj (f3:Int) (u:List En):Ms:=⟨18,[],f3::((u.take 16).map fJ).flatten,[]⟩
theorem j7 (f3:Int) (S:0<=f3) (U:f3<=1073741824) (A:List En) (h:∀e∈A,Fj e):ZH (pj f3 A):=by
 have hl:(A.take 16).length<=16:=by rw[zBv];omega
 have B:∀e∈A.take 16,Fj e:=λe u=>h e (zC2 u)
 unfold pj;generalize A.take 16=l at*
 have E:((l.map fJ).flatten).length=3*ln l:=by
  clear B hl
  induction l with
  |nil=>rfl
  |cons e l C=>rw[zCo,zD4,zBa,C,zBl];show 3+_=_;omega
 have O:((((l.map fJ).flatten).map jQ).flatten).length<=4*ln l:=by
  clear E hl
  induction l with
  |nil=>simp
  |cons e l C=>
   have C:=C λx z=>B x (by simp[z])
   have u:=B e zV;have e1:=DU (n:=e.ag) (by have:=u.a;omega);have L:=n7 (n:=e.ki) (by have:=u.k;omega);have e3:=DU (n:=e.co) (by have:=u.c;omega);rw[zCo,zD4,zBd,zEr,zBa,zBl]
   grind [ZH,pj,fJ]
 have I:=(gD f3).2;refine⟨rfl,by dsimp only;omega,?_,by dsimp only;rw[zBl];omega,λx z=>(by cases z),.inr Z,.inr ⟨.inr Z,(ln l:Int),?_,zB,by show(0:Int)<=_;omega,by show _<=(16:Int);omega⟩,?_⟩
 .refine .cons zB ?_;intro x z;obtain⟨y,G,z⟩:=zFc.1 z;obtain⟨e,u,rfl⟩:=zCl.1 G;have hk:=B e u;have h1:=hk.a;have h2:=hk.k;have M:=hk.c
  grind [ZH,pj,fJ]
 .show((f3::(l.map fJ).flatten).length:Int)=1+3*(ln l:Int)
  grind
 all_goals grind
def Pb (d:wE) (z:List Vw) (f3:Int) (k:Nat) (R:List (List Ms)) (u:List En):List Ms:=(R.getD k []++[RY d z f3])++(if d.au.getD k dd=true then [pj f3 u]else [])
theorem Mx (d:wE) (B:0<=d.rg.ag.req/\d.rg.ag.req<=4) (v:List Vw) (f3:Int) (C:0<=f3) (E:f3<=1073741824) (A:ln v<=4) (hb:∀w∈v,Ua w) (k:Nat) (R:List (List Ms)) (z:∀l∈R,ln l<=1000/\∀m∈l,ZH m) (hk:k<ln R) (u:List En) (h:∀e∈u,Fj e):(Pb d v f3 k R u).length<=1002/\∀m∈Pb d v f3 k R u,ZH m:=by grind [ZH,Pb,List.getElem?_eq_getElem,List.getElem_mem,List.length_append,List.length_cons,List.length_nil,List.mem_singleton,Nx,j7]
theorem zAc (u:List En):u.take (min ((u.map kG).length:Int) 16).toNat=u.take 16:=by grind [kG,List.length_map,List.take_of_length_le]
theorem Hs (y:Cy) (n0:0<=y.f3) (n1:y.f3<=1073741824) (a k s:Nat) (ha:a<ln y.ds) (hd:dH (y.ds.getD a dd)) (Y:0<=(y.ds.getD a dd).rg.ag.req/\(y.ds.getD a dd).rg.ag.req<=4) (hn:ln y.vw<=4) (hb:∀w∈y.vw,Ua w) (hk:k<(y.ds.getD a dd).au.length)
  (R:List (List Ms)) (S:∀l∈R,ln l<=1000/\∀m∈l,ZH m) (A:k<ln R) (u:List En) (he:∀e∈u,Fj e) (ac:ln u<=100000):
  zO 50 [qX y,Zk a k s,zE kW R,zE kG u] [] (zE zX (Pb (y.ds.getD a dd) y.vw y.f3 k R u)) []:=by
 have ht:=Mx _ Y y.vw y.f3 n0 n1 hn hb k R S A u he;have z:=DM (Pb (y.ds.getD a dd) y.vw y.f3 k R u) zB ht.2;have C:=qq (y.ds.getD a dd) hd Y y.vw y.f3 zB hb;have M:=zJ zM y.ds a ha;have B:=zJ kW R k A;have a2:=zJ bA (y.ds.getD a dd).au k hk;have ax:=zA kW R;have ap:=zA kG u;have ar:=zA bA (y.ds.getD a dd).au;have I:=(S _ (yB R k A)).1;have eR:R.getD k dd=R.getD k []:=rfl;unfold qX ZB;unfold Pb at z⊢;rw[eR]at B I;generalize RY (y.ds.getD a dd) y.vw y.f3=st,R.getD k []=E at *;have av:=zA zX E;unfold kW zE at B;generalize y.ds.getD a dd=d at *;unfold zM xD at M C;refine eM call50 λF hF=>?_
 refine zS C ?_;refine Qb 25 1001 4 Z Z Z ?_;generalize d.au.getD k dd=b at *;cases b
 .have e1:zE zX ((E++[st])++if false=true then [pj y.f3 u]else [])= .sl false (E.map zX++[zX st]):=by
   rw[Os zBm,zB0];unfold zE;rw[zBd];rfl
  rw[e1]at z⊢
  (have ga:=C;(repeat' (first|refine uT ?_|apply yW|apply xH|intro hc|(apply zG;first|refine SM ?_)|fail))<;>clear ga)
  (refine vJ 51 ?_;refine vU [] [85] Z ?_;(conv=>whnf);(try simp only[zBr,zA8]);first|refine wJ (zL (z) Z Z Z Z Z) Z ?_|refine qA (zL (z) Z Z Z Z Z) Z Z Z ?_|refine aO (zL (z) Z Z Z Z Z) Z Z Z ?_)
  (repeat' (first|refine uT ?_|apply yW|apply xH|intro hc|(apply zG;first|refine SM ?_)|fail))
  exact zH
 .have e1:zE zX ((E++[st])++if true=true then [pj y.f3 u]else [])= .sl false ((E.map zX++[zX st])++[zX (pj y.f3 u)]):=by
   rw[zA5 Z];unfold zE;rw[zBd,zBd];rfl
  rw[e1]at z⊢
  (have ga:=C;(repeat' (first|refine uT ?_|apply yW|apply xH|intro hc|(apply zG;first|refine SM ?_)|fail))<;>clear ga)
  rw[zAc];have V:(u.take 16).length<=16:=by rw[zBv];omega
  have W:=zA kG (u.take 16);rw[show zX (pj y.f3 u)= .agg [iA 18,.sl false [],.sl false ((y.f3::((u.take 16).map fJ).flatten).map iA),.sl false []]from Z]at *; generalize u.take 16=O at *;refine vQ 57 Z ?_;refine zU (O) [11,57,1001] [1001] [10,11,63,64] [65,10,11,63,64] Z (λi f4 T U=>⟨(65,iA i)::T,(11,.box [iA 18,.s (.slice none 0 0),.ref 57 0 ((y.f3::(f4.map fJ).flatten).map iA).length,.s (.slice none 0 0)])::(57,.arr 1 ((y.f3::(f4.map fJ).flatten).map iA) true)::U⟩) (Lq ?_ ?_)
  .intro i f4 x post G hi;have hy:=yG kG G hi;have az:=zW G hi
   have a1:((f4.map fJ).flatten).length=3*ln f4:=by
    clear G hi hy
    induction f4 with
    |nil=>rfl
    |cons e l ih=>rw[zCo,zD4,zBa,ih,zBl];show 3+_=_;omega
   have L:=zA iA (y.f3::(f4.map fJ).flatten);rw[zBl]at L;rw[zBd,zEr];rw[show(y.f3::((f4.map fJ).flatten++([x].map fJ).flatten)).map iA=(y.f3::(f4.map fJ).flatten).map iA++[iA x.ag,iA x.ki,iA x.co] by simp[fJ]];unfold kG OQ at hy;clear G z C e1;generalize (y.f3::(f4.map fJ).flatten).map iA=X at *;refine WW ?_;rfl
  .refine wB [11,1001] [10,11,63,64,65] Z ?_
   (conv=>whnf)
   simp only[zBr,zA8]
   (repeat' (first|refine jX ?_|apply yW|apply xH|intro hc|(apply zG;first|(apply yI;refine ZR 82 Z Z Z ?_;refine vD tok Z Z ?_))|refine SB ?_|fail))
   (refine vJ 51 ?_;refine vU [] [85] Z ?_;(conv=>whnf);(try simp only[zBr,zA8]);first|refine wJ (zL (z) Z Z Z Z Z) Z ?_|refine qA (zL (z) Z Z Z Z Z) Z Z Z ?_|refine aO (zL (z) Z Z Z Z Z) Z Z Z ?_)
   (repeat' (first|refine uT ?_|apply yW|apply xH|intro hc|(apply zG;first|refine SM ?_)|fail))
   exact zH
structure LX (y:Cy):Prop where
 v:qb y.c
 rf:y.rf=false
 n0:0<=y.f3
 dl:y.ds.length=y.c.ags.length
 di:∀d∈y.ds,qE y.c d
 dg:∀a,a<y.ds.length->(y.ds.getD a default).rg.ag=y.c.ags.getD a default
 sc:∀d∈y.ds,KV y.f3 d.rq
 gl:y.sg.length=y.c.js.length
 sl:y.sv.length=y.c.js.length
 tl:y.st.length=y.c.js.length
 wl:y.vw.length=y.c.js.length
 wb:∀w∈y.vw,Ua w
 j:∀k,k<y.c.js.length->JI (y.c.js.getD k default) (y.sg.getD k default) (y.sv.getD k default) y.f3
def OX [Inhabited α] {l:List α} {x:α} (h:x∈l):∃i,i<ln l/\l.getD i dd=x:=by
 obtain⟨i,hi,e⟩:=List.mem_iff_getElem.1 h;exact⟨i,hi,by rw[zBj,zB2 hi];exact e⟩
theorem LX.b (h:LX y):i7 y:=by
 have M:=h.v.a;have hj:=h.v.j;have h1:=h.dl;have h2:=h.gl;have E:=h.sl;have G:=h.tl;have I:=h.wl;refine⟨zB,λd hd=>(h.di d hd).bd,zB,λs u=>?_,zB,λs u=>?_,zB,zB,λw B=>?_⟩
 .obtain⟨i,hi,rfl⟩:=OX u;have J:=h.v.jv _ (yB y.c.js i zB);have C:=(h.j i zB).c;have z:=J.n;have A:=C.n;have L:=C.m;omega
 .obtain⟨i,hi,rfl⟩:=OX u;have J:=h.v.jv _ (yB y.c.js i zB);have z:=J.n;have A:=(h.j i zB).n;omega
 .have:=h.wb w B;have z:=this.n;have A:=this.m;omega
def bE (c:Cf) (z:List Sg) (u:List Int):List Sg:=u.foldl (λs x=>s.set x.toNat (Mr (c.js.getD x.toNat dd) (s.getD x.toNat dd))) z
theorem DN (c:Cf) (z:List Sg) (u:List Int) (x:Int):bE c z (u++[x])=(bE c z u).set x.toNat (Mr (c.js.getD x.toNat dd) ((bE c z u).getD x.toNat dd)):=by grind [bE,Mr]
theorem KW [Inhabited α] (l:List α) (i j:Nat) (x:α) (hj:j<ln l):(l.set i x).getD j dd=if i=j then x else l.getD j dd:=by grind
theorem KX (hv:qb c) {sv:List Sv} :∀(z:List Int) (u:List Sg),ln u=ln c.js->(∀k,k<ln c.js->JI (c.js.getD k dd) (u.getD k dd) (sv.getD k dd) f3)->(bE c u z).length=ln c.js/\∀k,k<ln c.js->JI (c.js.getD k dd) ((bE c u z).getD k dd) (sv.getD k dd) f3
 | [],u,hl,h=>⟨hl,h⟩
 |x::z,u,hl,h=>by
  have e:bE c u (x::z)=bE c (u.set x.toNat (Mr (c.js.getD x.toNat dd) (u.getD x.toNat dd))) z:=rfl;rw[e];refine KX hv z _ (by rw[zCk];exact hl) λk hk=>?_
  rw[KW _ _ _ _ zB];split
  .rename_i A;rw[A];have H:=h k hk;exact⟨zAe (hv.jv _ (yB c.js k hk)) H.c,H.n,H.e,H.g⟩
  .exact h k hk
theorem Gs (D:Nat->Sg×Sv) (l:List Sg) (n k:Nat) (h1:k<n) (h2:k<ln l):(YP D l n).getD k dd=(D k).1:=by grind [YP,vY]
theorem Fs (D:Nat->Sg×Sv) (l:List Sv) (n k:Nat) (h1:k<n) (h2:k<ln l):(YQ D l n).getD k dd=(D k).2:=by grind [YQ,vY]
def QP (u:List Jn) (D:Nat->Sg×Sv) (n:Nat):List Vw:=(pi n).map λk=>QR (u.getD k dd) (D k).1 (D k).2
theorem Es (u:List Jn) (D:Nat->Sg×Sv) (n:Nat):Bg u D n n=(QP u D n).map vV:=by simp_all [Bg,QP,vV]
def eP (y:Cy) (R:Nat->DR):Nat->Sg×Sv:=ZJ y.c (bE y.c y.sg (dF R (ln y.ds))) y.sv y.st (dB (y.f3+1) y.ds R (ln y.ds)) (y.f3+1)
def uQ (y:Cy) (R:Nat->DR):Cy:=
 ⟨y.c,false,y.f3+1,dB (y.f3+1) y.ds R (ln y.ds),YP (eP y R) (bE y.c y.sg (dF R (ln y.ds))) (ln y.c.js),YQ (eP y R) y.sv (ln y.c.js),XU y.st (ln y.c.js),QP y.c.js (eP y R) (ln y.c.js)⟩
def zh (y:Cy) (ins:List In) (R:Nat->DR):Prop:=∀a,a<ln y.ds->N9 y.c (y.f3+1) (XL (y.ds.getD a dd) (y.f3+1)) (DJ y.c ins a) (R a)/\zO 115 [wD y.c,zM (XL (y.ds.getD a dd) (y.f3+1)),zE uI (DJ y.c ins a),iA (y.f3+1)] [] (Dj (R a)) []/\∀m k,DJ y.c ins a=m++pb k dd->zO 56 [wD y.c,zM (XL (y.ds.getD a dd) (y.f3+1)),zE uI m,iA (y.f3+1)] [] (Dj (R a)) []
theorem fZ {a:Nat} (u:a<ln ds):(dB f3 ds R (ln ds)).getD a dd=(R a).d:=by grind [dB]
def gQ (f3:Int) (ds:List wE) (R:Nat->DR):(dB f3 ds R (ln ds)).length=ln ds:=by simp[dB]
theorem aI (h:d∈dB f3 ds R (ln ds)):∃a,a<ln ds/\d=(R a).d:=by grind [dB]
def Ob (l:List Rq) (f3:Int):WH l (KL l f3):=WH.filter _ _
noncomputable def gK (y:Cy) (ins:List In) (a:Nat):DR:=ZI y.c (XL (y.ds.getD a dd) (y.f3+1)) (DJ y.c ins a) (y.f3+1)
def gk (h:LX y) (I:y.f3<1000000000) (z:∀i∈ins,HL i):zh y ins (gK y ins):=λa B=>by
 have A:=h.di _ (yB y.ds a B);obtain⟨C,G,_⟩:=W8 A (y.f3+1);have u:=A.au;rw[h.dg a B]at u;have L:=(h.v.av _ (yB y.c.ags a (by have:=h.dl;omega))).e;have M:=h.n0
 exact Eg y.c _ C (DJ y.c ins a) (by unfold DJ Aa;rw[zA6,zCr];show _=(y.ds.getD a dd).au.length;omega) (λi hi=>by
  unfold DJ Aa at hi;obtain⟨k,_,rfl⟩:=zCl.1 hi;by_cases hk:(uF y.c.ags a).toNat+k<ln ins
  .exact z _ (yB ins _ hk)
  .rw[zBj,zCh zB]
   exact⟨zBn _,λx E=>by cases E⟩) (y.f3+1) zB zB
theorem KY (h:LX y) (A:zh y ins R):LX (uQ y R):=by
 have L:=h.n0;have E:=KX h.v (sv:=y.sv) (f3:=y.f3) (dF R (ln y.ds)) y.sg h.gl h.j
 have I:∀k,k<ln y.c.js->JI (y.c.js.getD k dd) (eP y R k).1 (eP y R k).2 (y.f3+1):=λk hk=>by
  have J:=h.v.jv _ (yB y.c.js k hk);have H:=E.2 k hk;exact zAb J zB ⟨H.c,H.n,λe C=>by have:=H.e e C;omega,H.g⟩ _ _ _
 have G:=h.sl;refine⟨h.v,rfl,by show 0<=y.f3+1;omega,(gQ ..).trans h.dl,λd hd=>?_,λa z=>?_,λd hd=>?_,?_,?_,?_,?_,λw B=>?_,λk hk=>?_⟩
 .obtain⟨a,z,rfl⟩:=aI hd;exact(A a z).1.i
 .have u:a<ln y.ds:=by rw[<-gQ (y.f3+1) y.ds R];exact z
  show((dB (y.f3+1) y.ds R (ln y.ds)).getD a dd).rg.ag=_
  rw[fZ u,(A a u).1.ag];exact h.dg a u
 .obtain⟨a,z,rfl⟩:=aI hd;refine(A a z).1.sc ?_;exact KV.of zB ((h.sc _ (yB y.ds a z)).mono zB) (Ob _ _)
 .grind [zh,uQ,YP,wP]
 .grind [zh,uQ,YQ,wP]
 .show(XU _ _).length=_
  unfold XU;rw[wP];exact h.tl
 .grind [zh,uQ,QP]
 .unfold uQ QP at B;obtain⟨k,hk,rfl⟩:=zCl.1 B;exact Kx _ (h.v.jv _ (yB y.c.js k (zBu.1 hk))) _ _
 all_goals grind [zh,uQ,YP,eP,bE,dF,YQ,Gs,Fs]
def SJ (y:Cy) (ins:List In) (R:Nat->DR) (n a k:Nat):List Ms:=if(ins.getD ((uF y.c.ags a).toNat+k) dd).opn=true then Pb (y.ds.getD a dd) y.vw y.f3 k (R a).R (XT R n)else []
def OY (T:Nat->Nat->List Ms) (a k:Nat):List (List Ms):=(pi k).map (T a)
def ZK (c:Cf) (T:Nat->Nat->List Ms) (n:Nat):List (List Ms):=((pi n).map λa=>OY T a (c.ags.getD a dd).ses.toNat).flatten
def f7 (T:List (List Ms)) (f:Ms):AV:= .agg [zE kW T,zE zX [f]]
def DO (T:Nat->Nat->List Ms) (a k:Nat):OY T a (k+1)=OY T a k++[T a k]:=by simp[OY,zC5]
def UF (c:Cf) (T:Nat->Nat->List Ms) (n:Nat):ZK c T (n+1)=ZK c T n++OY T n (c.ags.getD n dd).ses.toNat:=by simp[ZK,zC5]
theorem cR (u:QT c.ags) (T:Nat->Nat->List Ms):∀n,n<=ln c.ags->((ZK c T n).length:Int)=uF c.ags n
 |0,_=>rfl
 |n+1,z=>by
  have A:=cR u T n zB;have:=u.at (i:=n) zB;rw[UF,zBa]
  show _=uF c.ags n+(c.ags.getD n dd).ses
  have:(OY T n (c.ags.getD n dd).ses.toNat).length=(c.ags.getD n dd).ses.toNat:=by simp[OY]
  omega
theorem PN (z:QT c.ags) (T:Nat->Nat->List Ms):∀n,n<=ln c.ags->∀s,s<(ZK c T n).length->∃a k:Nat,a<n/\(k:Int)<(c.ags.getD a dd).ses/\s=(uF c.ags a).toNat+k/\(ZK c T n).getD s []=T a k
 |0,_,s,u=>by cases u
 | n+1,C,s,u=>by
  have hl:=cR z T n zB;rw[UF]at u⊢;by_cases h:s<(ZK c T n).length
  .obtain⟨a,k,h1,h2,A,B⟩:=PN z T n zB s h;refine⟨a,k,zB,h2,A,?_⟩;rw[zBj,zB9 h,<-zBj];exact B
  .rw[zBa]at u;have E:(OY T n (c.ags.getD n dd).ses.toNat).length=(c.ags.getD n dd).ses.toNat:=by simp[OY]
   refine⟨n,s-(ZK c T n).length,zB,zB,zB,?_⟩;rw[zBj,zCe zB];unfold OY;rw[zBe,zC1 zB];rfl
