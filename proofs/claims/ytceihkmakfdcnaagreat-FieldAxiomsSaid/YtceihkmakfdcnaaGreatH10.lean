/- The fast interpreter, part 1: frames as trees, memory as lists, comparisons: made for the kernel. Own work; no condition. -/
import Derived.Test.YtceihkmakfdcnaaGreatH4
set_option linter.all false
set_option maxHeartbeats 16000000
set_option maxRecDepth 100000
open Bool renaming rec->yR,false->ah,true->ae
open Go renaming Operand->dS,FuncId->jA,Oper->aX,Value->aO,Program->bS
open Go.El renaming jt->S,vK->r
open Go.Op renaming operands->aaV
open Go.World renaming cell?->B0
open List renaming rec->kp,length->Z,range->cd,drop->az,take->h,getD->E
open Nat renaming beq->gG,ble->dT,blt->dj,rec->Mj
open Option renaming some->ad
open _root_ renaming List->V,Option->ar,Nat->Y
namespace Go.El
open Go Go.RowKit
inductive D4 where
 |a|b|c|d
inductive T4(f:Type) where
 |e
 |lf (v:f)
 |nd (a b c d:T4 f)
section
variable{α:Type}
noncomputable def iZ(p:V D4):T4 α->ar α:=kp (motive:=λ_=>T4 α->ar α)
 (λt=>T4.rec (motive:=λ_=>ar α) none (λv=>ad v) (λ_ _ _ _ _ _ _ _=>none) t)
 (λx _ e t=>T4.rec (motive:=λ_=>ar α) none (λ_=>none) (λa b c d _ _ _ _=>D4.rec (motive:=λ_=>ar α) (e a) (e b) (e c) (e d) x) t) p
noncomputable def jk(p:V D4)(v:α):T4 α->T4 α:=kp (motive:=λ_=>T4 α->T4 α)
 (λ_=> .lf v)
 (λx _ f t=>T4.rec (motive:=λ_=>T4 α)
  (D4.rec (motive:=λ_=>T4 α) (.nd (f .e) .e .e .e) (.nd .e (f .e) .e .e) (.nd .e .e (f .e) .e) (.nd .e .e .e<|f .e) x)
  (λ_=>D4.rec (motive:=λ_=>T4 α) (.nd (f .e) .e .e .e) (.nd .e (f .e) .e .e) (.nd .e .e (f .e) .e) (.nd .e .e .e<|f .e) x)
  (λa b c d _ _ _ _=>D4.rec (motive:=λ_=>T4 α) (.nd (f a) b c d) (.nd a (f b) c d) (.nd a b (f c) d) (.nd a b c<|f d) x) t) p
noncomputable def DH(p:V D4):T4 α->T4 α:=kp (motive:=λ_=>T4 α->T4 α)
 (λ_=> .e)
 (λx _ f t=>T4.rec (motive:=λ_=>T4 α) .e (λ_=> .e)
  (λa b c d _ _ _ _=>D4.rec (motive:=λ_=>T4 α) (.nd (f a) b c d) (.nd a (f b) c d) (.nd a b (f c) d) (.nd a b c<|f d) x) t) p
def yQ:∀p:V D4,iZ p (.e:T4 α)=none
 |[]=>rfl
 |_::_=>rfl
def Hx(v:α):∀(p:V D4)(t:T4 α),iZ p (jk p v t)=ad v
 |[],_=>rfl
 |x::p,t=>by cases t<;>cases x<;>exact Hx v p _
def DI(v:α):∀(p q:V D4)(t:T4 α),Z p=Z q->p≠q->iZ q (jk p v t)=iZ q t
 |[],[],_,_,a=>absurd J a
 |[],_::_,_,a,_=>by simp at a
 |_::_,[],_,a,_=>by simp at a
 |x::p,i::q,t,hl,a=>by
  have d:Z p=Z q:=tY;by_cases f:x=i
  .subst f;have g:p≠q:=λe=>a uI
   cases t<;>cases x<;>first|exact DI v p q _ d g|exact(DI v p q _ d g).trans<|yQ q
  .cases t<;>cases x<;>cases i<;>first|rfl|exact yQ q|exact absurd rfl f
def R1:∀(p:V D4)(t:T4 α),iZ p (DH p t)=none
 |[],_=>rfl
 |x::p,t=>by cases t<;>cases x<;>first|rfl|exact R1 p _
def R2:∀(p q:V D4)(t:T4 α),Z p=Z q->p≠q->iZ q (DH p t)=iZ q t
 |[],[],_,_,a=>absurd J a
 |[],_::_,_,a,_=>by simp at a
 |_::_,[],_,a,_=>by simp at a
 |x::p,i::q,t,hl,a=>by
  have f:Z p=Z q:=tY;by_cases d:x=i
  .subst d;have g:p≠q:=λe=>a uI
   cases t<;>cases x<;>first|rfl|exact R2 p q _ f g
  .cases t<;>cases x<;>cases i<;>first|rfl|exact absurd rfl d
end
def nc:Y->D4
 |0=> .a
 |1=> .b
 |2=> .c
 |_=> .d
def cP:Y->Y->V D4
 |0,_=>[]
 |n+1,t=>nc (t/4^n)::cP n (t%4^n)
def R3:∀n t,(cP n t).length=n
 |0,_=>rfl
 |n+1,t=>by simp[cP,R3 n]
def LU{a d}(i:a<4)(k:d<4)(e:nc a=nc d):a=d:=by have f:a=0\/a=1\/a=2\/a=3:=O;have g:d=0\/d=1\/d=2\/d=3:=O;rcases f with rfl|rfl|rfl|rfl<;>rcases g with rfl|rfl|rfl|rfl<;>first|rfl| (simp[nc]at e)
def A7:∀(n:Y){a d:Y},a<4^n->d<4^n->cP n a=cP n d->a=d
 |0,a,d,e,f,_=>by simp at e f;omega
 |n+1,a,d,e,f,g=>by simp only[cP,IN]at g;have i:0<4^n:=iA T;have k:a/4^n=d/4^n:=LU (xO<|by rw[fp]at e;omega) (xO<|by rw[fp]at f;omega) g.1;have l:a%4^n=d%4^n:=A7 n (fg _ i) (fg _ i) g.2;rw[<-qh a (4^n),<-qh d (4^n),k,l]
abbrev Tr:=T4 AV
abbrev Mem:=V<|Y×aE
section
variable{α:Type}
noncomputable def lR(a:Y)(l:V (Y×α)):ar α:=kp (motive:=λ_=>ar α) none
 (λh _ d=>Prod.rec (motive:=λ_=>ar α) (λk x=>yR (motive:=λ_=>ar α) d (ad x)<|gG k a) h) l
noncomputable def Hy(a:Y)(v:α)(l:V (Y×α)):V (Y×α):=kp (motive:=λ_=>V<|Y×α) [(a,v)]
 (λh r d=>Prod.rec (motive:=λ_=>V<|Y×α) (λk x=>yR (motive:=λ_=>V<|Y×α) ((k,x)::d) ((a,v)::r)<|gG k a) h) l
def w6(a:Y):∀l:V (Y×α),lR a l=S a l
 |[]=>rfl
 | (k,x)::d=>by
  have e:=w6 a d;show yR (motive:=λ_=>ar α) (lR a d) (ad x) (gG k a)=_;simp only[S];by_cases h:k=a
  .subst h;rw[Hz,ao J]
  .have:gG k a=ah:=by
    cases f:gG k a
    .rfl
    .exact absurd (kI f) h
   rw[this,w h];exact e
def Z0(a:Y)(v:α):∀l:V (Y×α),Hy a v l=hJ a v l
 |[]=>rfl
 | (k,x)::d=>by
  have e:=Z0 a v d;show yR (motive:=λ_=>V<|Y×α) ((k,x)::Hy a v d) ((a,v)::d) (gG k a)=_;simp only[hJ];by_cases h:k=a
  .subst h;rw[Hz,ao J]
  .have:gG k a=ah:=by
    cases f:gG k a
    .rfl
    .exact absurd (kI f) h
   rw[this,w h];simp only[e]
end
noncomputable def eE(dep n:Y)(t:Tr):V (Y×AV):=(cd n).filterMap λj=>(iZ (cP dep j) t).map λv=>(j,v)
noncomputable def a7(dep n:Y)(t:Tr)(m:Mem):St:=⟨eE dep n t,m,0,[]⟩
def Z1{f:Type}(g:Y->ar f)(t:Y):∀l:V Y,S t (l.filterMap λa=>(g a).map λv=>(a,v))=if t∈l then g t else none
 |[]=>rfl
 |a::l=>by
  have d:=Z1 g t l;simp only[List.filterMap_cons];cases hg:g a with
  |none=>
   simp only[Option.map_none,d,bX]
   by_cases h:t=a
   .subst h;simp[hg]
   .simp[h]
  |some v=>
   simp only[uh,S,d,bX]
   by_cases h:a=t
   .subst h;simp[hg]
   .have:t≠a:=λe=>h e.symm
    simp[h,this]
def r8 dep n t a:S a (eE dep n t)=if a<n then iZ (cP dep a) t else none:=by unfold eE;rw[Z1 (λa=>iZ (cP dep a) t) a];simp only[oI]
def DJ(dep n:Y)(t:Tr)(m:Mem):(a7 dep n t m).kn=λ| .s a=>((if a<n then iZ (cP dep a) t else none)).map .v| .m id=>(S id m).map .b:=by
 funext k;cases k with
 |s a=>simp only[a7,St.kn,r8]
 |m id=>rfl
def Z2 dep n(t:Tr) d a v(i:n<=4^dep)(g:d<n):S a (eE dep n<|jk (cP dep d) v t)=if d=a then ad v else S a (eE dep n t):=by
 rw[r8,r8];by_cases h:d=a
 .subst h;simp[g,Hx]
 .rw[w h];by_cases f:a<n
  .rw[ao f,ao f,DI _ _ _ _ DK<|λe=>h<|A7 dep O O e]
  .rw[w f,w f]
def ale dep n(t:Tr) d a(i:n<=4^dep)(g:d<n):S a (eE dep n<|DH (cP dep d) t)=if d=a then none else S a (eE dep n t):=by
 rw[r8,r8];by_cases h:d=a
 .subst h;simp[g,R1]
 .rw[w h];by_cases f:a<n
  .rw[ao f,ao f,R2 _ _ _ DK<|λe=>h<|A7 dep O O e]
  .rw[w f,w f]
def DL dep n(t:Tr)(m:Mem) d v(a:n<=4^dep)(e:d<n):(a7 dep n (jk (cP dep d) v t) m).kn=bq (a7 dep n t m).kn [(.s d,ad<|.v v)]:=by
 funext k;cases k with
 |s j=>
  simp only[a7,St.kn,bq,aC,Key.s.injEq,Z2 dep n t d j v a e]
  split<;>simp
 |m id=>simp[a7,St.kn,bq,aC]
def alf dep n(t:Tr)(m:Mem) d(a:n<=4^dep)(e:d<n):(a7 dep n (DH (cP dep d) t) m).kn=bq (a7 dep n t m).kn [(.s d,none)]:=by
 funext k;cases k with
 |s j=>
  simp only[a7,St.kn,bq,aC,Key.s.injEq,ale dep n t d j a e]
  split<;>simp
 |m id=>simp[a7,St.kn,bq,aC]
def Z3 dep n t(m e:Mem) wr(f:∀a,(S a e).map Info.b=bq (a7 dep n t m).kn wr (.m a))(g:∀d,aC wr (.s d)=none):(a7 dep n t e).kn=bq (a7 dep n t m).kn wr:=by
 funext k;cases k with
 |s d=>simp[a7,St.kn,bq,g d]
 |m a=>exact f a
def Md:Int->Int->Bool
 | .ofNat m,.ofNat n=>dT m n
 | .negSucc _,.ofNat _=>ae
 | .negSucc m,.negSucc n=>dT n m
 | .ofNat _,.negSucc _=>ah
def R4:Int->Int->Bool
 | .ofNat m,.ofNat n=>gG m n
 | .negSucc m,.negSucc n=>gG m n
 |_,_=>ah
def Z4 a d:Md a d=decide (a<=d):=by cases a<;>cases d<;>simp only[Md]<;>rw[Bool.eq_iff_iff]<;>simp[Nat.ble_eq]<;>omega
def alg a d:R4 a d=decide (a=d):=by cases a<;>cases d<;>simp only[R4]<;>rw[Bool.eq_iff_iff]<;>simp<;>omega
def Me:Int->Bool
 | .ofNat m=>dj m 9223372036854775808
 | .negSucc m=>dj m 9223372036854775808
def alh{n}(a:Me n=ae):gf n:=by
 cases n with
 |ofNat m=>simp only[Me,rJ]at a;unfold gf;simp only[Int.ofNat_eq_natCast];omega
 |negSucc m=>simp only[Me,rJ]at a;unfold gf;omega
def tC:Pr->Bool
 | .t=>ae
 | .i64 n=>Me n
 | .zv d=>Bool.not<|R4 d 0
 | .le a d=>Md a d
 | .lt a d=>Bool.not<|Md d a
 | .zw a d=>dj a d
 | .sp a d=>a==d
 | .and p q=>match tC p with
  |true=>tC q
  |false=>ah
def DM:∀{p:Pr},tC p=ae->p.h
 | .t,_=>trivial
 | .i64 _,d=>alh d
 | .zv e,d=>by simp only[tC,alg]at d;simpa[Pr.h]using d
 | .le a e,d=>by simp only[tC,Z4]at d;simpa[Pr.h]using d
 | .lt a e,d=>by simp only[tC,Z4]at d;simpa[Pr.h]using d
 | .zw a e,d=>by simpa[tC,Pr.h,rJ]using d
 | .sp a e,d=>by simpa[tC,Pr.h]using d
 | .and p q,d=>by
  simp only[tC]at d;split at d
  .rename_i f;exact⟨DM f,DM d⟩
  .cases d
def DN(k:Y):C->Bool
 | .P id _=>dj id k
 | .X id=>dj id k
 | .Y id _ _ _=>dj id k
 | .L id _ _ _=>dj id k
 | .W id _ _=>dj id k
 |_=>ae
def Z5{k}{a}(d:DN k a=ae):∀e∈a.ak,e<k:=by cases a<;>simp only[DN,C.ak,rJ]at d⊢<;>simp<;>exact d
noncomputable def tD(k:Y)(l:V C):Bool:=kp (motive:=λ_=>Bool) ae (λc _ a=>yR (motive:=λ_=>Bool) ah a<|DN k c) l
def yS{k:Y}:∀{l:V C},tD k l=ae->∀d∈bP l,d<k
 |[],_=>by simp[bP]
 |f::g,i=>by
  have e:yR (motive:=λ_=>Bool) ah (tD k g) (DN k f)=ae:=i;cases hc:DN k f with
  |false=>rw[hc]at e;cases e
  |true=>
   rw[hc]at e
   intro d a
   simp only[bP,aY]at a
   rcases a with a|a
   .exact Z5 hc d a
   .exact yS e d a
noncomputable def HA(k:Y)(l:V (Bool×V C)):Bool:=kp (motive:=λ_=>Bool) ae (λc _ a=>yR (motive:=λ_=>Bool) ah a<|tD k c.2) l
def Mf{k:Y}:∀{l:V (Bool×V C)},HA k l=ae->∀d∈eo l,d<k
 |[],_=>by simp[eo]
 |f::g,i=>by
  have e:yR (motive:=λ_=>Bool) ah (HA k g) (tD k f.2)=ae:=i;cases hc:tD k f.2 with
  |false=>rw[hc]at e;cases e
  |true=>
   rw[hc]at e
   intro d a
   simp only[eo,aY]at a
   rcases a with a|a
   .exact yS hc d a
   .exact Mf e d a
noncomputable def Z6(k:Y):AV->Bool
 | .c x=>DN k x
 | .a cs=>tD k cs
 | .t d=>HA k d
def ali{k}{v}(d:Z6 k v=ae):∀e∈v.ak,e<k:=by
 cases v with
 |c x=>exact Z5 d
 |a cs=>exact yS d
 |t f=>exact Mf d
inductive Pd where
 |s (p:V D4)
 |k (v:AV)
noncomputable def jz(t:Tr):Pd->ar AV
 | .s p=>iZ p t
 | .k v=>ad v
noncomputable def w7(t:Tr)(l:V Pd):ar (V AV):=kp (motive:=λ_=>ar<|V AV) (ad [])
 (λx _ a=>match jz t x with
  |some v=>(match a with
   |some vs=>ad<|v::vs
   |none=>none)
  |none=>none) l
def il(dep n:Y):dS->ar Pd
 | .tmp a=>(match dj a n with
  |true=>ad<|.s<|cP dep a
  |false=>none)
 | .const v=>ad<|.k<|BN v
 | .func f=>ad<|.k<|.c<|.V<|.func (.func f) #[] #[]
 | .global _=>none
def w8(dep n:Y):V dS->ar (V Pd)
 |[]=>ad []
 |x::xs=>(match il dep n x,w8 dep n xs with
  |some p,ad ps=>ad<|p::ps
  |_,_=>none)
abbrev Ms:=V Mem
noncomputable def bu(a:Y)(d:Ms):ar aE:=kp (motive:=λ_=>ar aE) none
 (λm _ e=>match lR a m with
  |some b=>ad b
  |none=>e) d
noncomputable def pH(a:Y)(d:aE)(e:Ms):Ms:=kp (motive:=λ_=>Ms) []
 (λm r f=>match lR a m with
  |some _=>Hy a d m::r
  |none=>m::f) e
def tE(a:Y):Ms->Ms
 |[]=>[]
 |m::d=>rv a m::tE a d
def yT(k:Y)(a:aE):Ms->Ms
 |m::d=>((k,a)::m)::d
 |[]=>[[(k,a)]]
def ja(a:Y):∀d:Ms,S a d.flatten=bu a d
 |[]=>rfl
 |m::e=>by
  have f:=ja a e;show _=match lR a m with|some b=>ad b|none=>bu a e
  rw[Jf,CH,w6,f];cases S a m<;>rfl
def DO(d a:Y)(f:aE):∀i:Ms,bu d (pH a f i)=match bu a i with
  |some _=>if a=d then ad f else bu d i
  |none=>bu d i
 |[]=>rfl
 |m::e=>by
  have l:=DO d a f e;have k:∀d(m:Mem)(e:Ms),bu d (m::e)=match lR d m with|some f=>ad f|none=>bu d e:=λ_ _ _=>rfl
  have n:pH a f (m::e)=match lR a m with|some _=>Hy a f m::e|none=>m::pH a f e:=rfl
  rw[n,k a m e];cases h:lR a m with
  |some x=>
   simp only[k,w6,Z0,nA]
   by_cases g:a=d
   .simp[g]
   .simp[g]
  |none=>
   simp only[k,l]
   cases h2:bu a e with
   |none=>rfl
   |some x=>
    by_cases g:a=d
    .subst g;simp[h]
    .simp[g]
def A8(a d:Y):∀f:Ms,bu a (tE d f)=if d=a then none else bu a f
 |[]=>by simp[tE,bu]
 |m::e=>by
  have g:=A8 a d e;have i:∀a(m:Mem)(e:Ms),bu a (m::e)=match lR a m with|some b=>ad b|none=>bu a e:=λ_ _ _=>rfl
  simp only[tE,i,w6,zI,g];by_cases k:d=a<;>simp[k]
def HB a k d ms:bu a (yT k d ms)=if k=a then ad d else bu a ms:=by
 have e:∀a(m:Mem)(r:Ms),bu a (m::r)=match lR a m with|some d=>ad d|none=>bu a r:=λ_ _ _=>rfl
 cases ms with
 |nil=>simp only[yT,e,w6,S];by_cases h:k=a<;>simp[h,bu]
 |cons m r=>simp only[yT,e,w6,S];by_cases h:k=a<;>simp[h]
inductive Ft where
 |n
 |m (rd a:V Y)
 |c (k d:Y) (e:V Y)
inductive Rs where
 |no
 |ok (t:Tr) (ms:Ms) (k:Y) (a:V Y) (f:Ft)
inductive Cr where
 |no
 |ok (r:AV) (ms:Ms) (k:Y) (a:V Y)
abbrev lS:=jA->V AV->Ms->Y->Cr
inductive Mg where
 |mv (d:V D4) (x:Pd)
 |bin (d:V D4) (op:BinOp) (a:Y) (x e:Pd)
 |idx (d:V D4) (a:Y) (x i:Pd)
 |Z7 (d:V D4) (a:Y) (x:Pd) (f:Y)
 |ext (d:V D4) (x:Pd) (k:Y)
 |len (d:V D4) (a:Y) (x:Pd)
 |ld (d:V D4) (a:Y) (x:Pd)
 |st (a:Y) (x e:Pd)
 |gen (d:ar (Y×V D4)) (sl:V (Y×V D4)) (op:Op)
 |call (d:V D4) (f:jA) (args:V Pd)
 |Z8 (d:V D4) (x:Pd) (args:V Pd)
noncomputable def tF(d:V D4)(v:AV)(t:Tr)(a:Ms)(k:Y)(e:V Y)(f:Ft):Rs:=match Z6 k v with
 |true=> .ok (jk d v t) a k e f
 |false=> .no
noncomputable def Mh(d:V D4)(a:ar (AV×Pr))(t:Tr)(e:Ms)(k:Y)(f:V Y):Rs:=match a with
 |some (v,p)=>(match tC p with
  |true=>tF d v t e (k+1) f .n
  |false=> .no)
 |none=> .no
def Z9(a:TT)(d:Y)(v e:AV):ar (AV×Pr):=match Jx a d v e with
 |some r=>ad r
 |none=>IJ a d v e
def Z'(a:TT)(d:Y)(v:AV):ar AV:=match Jy a d v with
 |some r=>ad r
 |none=>EG a d v
noncomputable def Mi(l:V C):Y->ar C:=kp (motive:=λ_=>Y->ar C) (λ_=>none) (λc _ a n=>Mj (motive:=λ_=>ar C) (ad c) (λm _=>a m) n) l
noncomputable def aad(n:Y):V C->V C:=Mj (motive:=λ_=>V C->V C) (λl=>l) (λ_ a l=>kp (motive:=λ_=>V C) [] (λ_ r _=>a r) l) n
def A9(a:C):ar (V C)->ar (V C)
 |some d=>ad<|a::d
 |none=>none
noncomputable def R5(n:Y):V C->ar (V C):=Mj (motive:=λ_=>V C->ar (V C)) (λ_=>ad []) (λ_ a l=>kp (motive:=λ_=>ar<|V C) none (λc r _=>A9 c<|a r) l) n
noncomputable def R6(a:V C):V C->ar (V C):=kp (motive:=λ_=>V C->ar (V C)) (λl=>ad l) (λu _ d l=>kp (motive:=λ_=>ar<|V C) none (λ_ r _=>A9 u<|d r) l) a
noncomputable def R7(d:V C)(a:Y):V C->ar (V C):=Mj (motive:=λ_=>V C->ar (V C)) (R6 d) (λ_ e l=>kp (motive:=λ_=>ar<|V C) none (λc r _=>A9 c<|e r) l) a
def aae:∀(l:V C)(n:Y),Mi l n=l[n]?
 |[],n=>by simp[Mi]
 |d::a,0=>rfl
 |d::a,n+1=>by show Mi a n=_;rw[aae a n,vC]
def aaf:∀(n:Y)(l:V C),aad n l=az n l
 |0,l=>rfl
 |n+1,[]=>rfl
 |n+1,d::a=>aaf n a
def R8{d}{o}{x}(e:A9 d o=ad x):∃a,o=ad a/\x=d::a:=by
 cases o with
 |none=>cases e
 |some a=>cases e;exact⟨a,J,J⟩
def aag:∀(n:Y)(l x:V C),R5 n l=ad x->n<=Z l/\x=h n l
 |0,l,x,a=>by cases a;exact⟨a8 _,J⟩
 |n+1,[],x,a=>by cases a
 |n+1,e::d,x,a=>by obtain⟨f,g,rfl⟩:=R8 (show A9 e (R5 n d)=ad x from a);let ⟨i,h2⟩:=aag n d f g;exact⟨by simpa using i,by simp[h2]⟩
def aah:∀(a l x:V C),R6 a l=ad x->Z a<=Z l/\x=a++az (Z a) l
 |[],l,x,d=>by cases d;exact⟨a8 _,J⟩
 |u::a,[],x,d=>by cases d
 |u::a,k::e,x,d=>by obtain⟨f,g,rfl⟩:=R8 (show A9 u (R6 a e)=ad x from d);let ⟨i,h2⟩:=aah a e f g;exact⟨by simpa using i,by simp[h2]⟩
def aai(d:V C):∀(a:Y)(l x:V C),R7 d a l=ad x->a+Z d<=Z l/\x=cM l d a
 |0,l,x,e=>by let ⟨f,h2⟩:=aah d l x e;exact⟨O,by simp[cM,h2]⟩
 |a+1,[],x,e=>by cases e
 |a+1,c::r,x,e=>by obtain⟨y,g,rfl⟩:=R8 (show A9 c (R7 d a r)=ad x from e);let ⟨f,h2⟩:=aai d a r y g;refine⟨bV,?_⟩;simp[cM,h2,(O:a+1+Z d=a+Z d+1)]
noncomputable def HC(e:V C)(d sz:Y)(f:Bool):ar AV:=match f with
 |true=>(match R5 sz (aad d e)with
  |some x=>ad<|.a x
  |none=>none)
 |false=>(match Mi e d with
  |some c=>ad<|.c c
  |none=>none)
def R9{e}{d sz}{f}{x}(a:HC e d sz f=ad x)(k:sz=0->d<=Z e):mM e d sz f=ad x:=by
 unfold HC at a;unfold mM;split at a
 .split at a
  .rename_i y l;cases a;let ⟨g,h2⟩:=aag _ _ _ l;rw[aaf]at g h2;rw[ao J,ao (by simp at g;by_cases m:sz=0;have:=k m;omega;omega),h2]
  .cases a
 .split at a
  .rename_i c i;cases a;rw[aae]at i;simp[i]
  .cases a
noncomputable def R'(d:TT)(f:Ms)(g:Y)(v:AV):ar (AV×V Y):=match oK d g with
 |some (0,_)=>none
 |some (sz,a)=>(match v with
  | .c (.P id off)=>(match bu id f with
   |some (.box _ _ cs)=>(match HC cs off sz a with
    |some y=>ad (y,[id])
    |none=>none)
   |some (.fz _ cs)=>(match HC cs off sz a with
    |some y=>ad (y,[id])
    |none=>none)
   |_=>none)
  | .c (.E T e off)=>(match HC (av T e) off sz a with
   |some y=>ad (y,[])
   |none=>none)
  |_=>none)
 |none=>none
def Mk:V C->Bool
 |[]=>ae
 |a::d=>match jH a with
  |true=>Mk d
  |false=>ah
def aaj:∀{l:V C},Mk l=ae->l.all jH=ae
 |[],_=>rfl
 |e::f,a=>by
  simp only[Mk]at a;split at a
  .rename_i d;simp[d,aaj a]
  .cases a
noncomputable def aak(e d sz:Y)(a:V C):ar aE->ar (Y×aE×V C)
 |some (.box f g cs)=>(match gG (Z a) sz&&Mk a with
  |true=>(match R7 a d cs with
   |some x=>ad (e,.box f g x,a)
   |none=>none)
  |false=>none)
 |_=>none
noncomputable def Sa(a:TT)(d:Ms)(e:Y)(x v:AV):ar (Y×aE×V C):=match oK a e,x,jU v with
 |some (sz,_),.c (.P id off),ad us=>aak id off sz us<|bu id d
 |_,_,_=>none
def A'(e a:Y)(d:V Y):V Y:=match dj a e with
 |true=>a::d
 |false=>d
def Ml(e:Y)(a d:V Y):V Y:=match a with
 |[]=>d
 |_=>a.filter (λf=>dj f e)++d
noncomputable def Mm(k:Y):V (V C×V C)->Bool
 |[]=>ae
 |x::a=>match tD k x.1 with
  |true=>(match tD k x.2 with
   |true=>Mm k a
   |false=>ah)
  |false=>ah
def aal{k:Y}:∀{xs:V (V C×V C)},Mm k xs=ae->∀d∈kA xs,d<k
 |[],_,d,a=>by simp[kA]at a
 |x::i,e,d,a=>by
  simp only[Mm]at e;split at e
  .rename_i f;split at e
   .rename_i g;simp only[kA,aY]at a;rcases a with a|a|a
    .exact yS f d a
    .exact yS g d a
    .exact aal e d a
   .cases e
  .cases e
noncomputable def HD(k:Y):aE->Bool
 | .box _ _ cs=>tD k cs
 | .vec _ _ _=>ae
 | .gM _ a d=>match HA k a with
  |true=>HA k d
  |false=>ah
 | .fz _ cs=>tD k cs
 | .mp _ _ xs=>Mm k xs
 | .it m _ _=>dj m k
def aam{k}{g}(d:HD k g=ae):∀i∈g.ak,i<k:=by
 cases g with
 |box E z cs=>exact yS d
 |vec E T xs=>simp[aE.ak]
 |gM f a g=>
  simp only[HD]at d
  split at d
  .rename_i l;intro i e;simp only[aE.ak,aY]at e;exact e.elim (Mf l i)<|Mf d i
  .cases d
 |fz E cs=>exact yS d
 |mp o p xs=>exact aal d
 |it m n seen=>simpa[aE.ak,HD]using d
noncomputable def nh(d:V (Y×V D4))(t:Tr):V (Y×AV):=kp (motive:=λ_=>V<|Y×AV) []
 (λx _ a=>match iZ x.2 t with
  |some v=>(x.1,v)::a
  |none=>a) d
def yU:V (Y×AV)->V Y
 |[]=>[]
 | (_,v)::a=>v.ak++yU a
noncomputable def r9(a:V Y)(f:Ms):Mem:=kp (motive:=λ_=>Mem) []
 (λd _ e=>match bu d f with
  |some b=>(d,b)::e
  |none=>e) a
def aan:FD:=λ_ _ _ _=>none
def mK:V Key->V Y
 |[]=>[]
 | .m id::a=>id::mK a
 | .s _::a=>mK a
def wS(d:ar Y):V Key->Bool
 |[]=>ae
 | .m _::a=>wS d a
 | .s e::a=>(match d with
  |some d=>(match gG d e with
   |true=>wS (ad d) a
   |false=>ah)
  |none=>ah)
def Ba(a:Y):V Y->Bool
 |[]=>ah
 |x::d=>match gG x a with
  |true=>ae
  |false=>Ba a d
def rS(a:V Y):V Key->Bool
 |[]=>ae
 | .m _::d=>rS a d
 | .s e::d=>(match Ba e a with
  |true=>rS a d
  |false=>ah)
noncomputable def Bb(k l:Y)(m e:Mem)(g:V Y):Ms->V Y->ar (Ms×V Y):=kp (motive:=λ_=>Ms->V Y->ar (Ms×V Y))
 (λd f=>ad (d,f))
 (λa _ i d f=>match lR a e with
  |some b=>(match HD (k+1) b with
   |true=>(match gG a k with
    |true=>i (yT k b d) f
    |false=>(match bu a d with
     |some _=>i (pH a b d)<|A' l a f
     |none=>none))
   |false=>none)
  |none=>(match lR a m with
   |some _=>i (tE a d)<|A' l a f
   |none=>none)) g
noncomputable def Sb(p:TT)(n u:Y)(d:ar (Y×V D4))(x:V (Y×V D4))(op:Op)(t:Tr)(q:Ms)(k:Y)(s:V Y)(e:V (Y×AV))(l:Mem):Rs:=
 match Pf aan p n k (d.map (·.1)) op ⟨e,l,0,[]⟩with
 |some (f,B,a)=>(match gG B (k+1)&&wS (d.map (·.1)) a.2&&rS (x.map (·.1)) a.1 with
  |true=>(match Bb k u l f.mem (mK a.2) q s with
   |some (g,i)=>(match d with
    |none=> .ok t g (k+1) i<|.m (mK a.1)<|mK a.2
    |some (C,o)=>(match S C f.sl with
     |some v=>tF o v t g (k+1) i<|.m (mK a.1)<|mK a.2
     |none=> .no))
   |none=> .no)
  |false=> .no)
 |none=>(match d with
  |some (_,o)=>Mh o (uu p ⟨e,l,0,[]⟩ op) t q k s
  |none=> .no)
noncomputable def DP(e:lS)(l:Y)(d:V D4)(f:jA)(vs:V AV)(t:Tr)(m:Ms)(k:Y)(n:V Y):Rs:=match e f vs m k with
 | .ok r g i a=>tF d r t g i (Ml l a n)<|.c k i a
 | .no=> .no
noncomputable def Sc(d:V D4)(x:Pd)(t:Tr)(a:Ms)(k:Y)(e:V Y):Rs:=match jz t x with
 |some v=>tF d v t a (k+1) e .n
 |none=> .no
noncomputable def aao(e:TT)(d:V D4)(op:BinOp)(f:Y)(a g:C)(t:Tr)(i:Ms)(k:Y)(l:V Y):Rs:=match Pj e op f (.c a) (.c g)with
 |some u=>tF d u t i (k+1) l .n
 |none=> .no
noncomputable def aap(d:V D4)(a:C)(p:Pr)(t:Tr)(e:Ms)(k:Y)(f:V Y):Rs:=match tC p with
 |true=> .ok (jk d (.c a) t) e (k+1) f .n
 |false=> .no
noncomputable def aaq(e:TT)(d:V D4)(op:BinOp)(f:Y)(a g:C)(t:Tr)(i:Ms)(k:Y)(l:V Y):Rs:=match BR e op f a g with
 |some (c,p)=>aap d c p t i k l
 |none=>aao e d op f a g t i k l
noncomputable def aar(e:TT)(d:V D4)(op:BinOp)(f:Y)(x g:Pd)(t:Tr)(i:Ms)(k:Y)(l:V Y):Rs:=match jz t x,jz t g with
 |some (.c a),ad (.c b)=>aaq e d op f a b t i k l
 |_,_=> .no
noncomputable def aas(a:TT)(d:V D4)(e:Y)(x i:Pd)(t:Tr)(f:Ms)(k:Y)(g:V Y):Rs:=match jz t x,jz t i with
 |some v,ad w=>Mh d (Z9 a e v w) t f k g
 |_,_=> .no
noncomputable def aat(a:TT)(d:V D4)(e:Y)(x:Pd)(f:Y)(t:Tr)(g:Ms)(k:Y)(i:V Y):Rs:=match jz t x with
 |some v=>(match IF a e v f with
  |some u=>tF d u t g (k+1) i .n
  |none=> .no)
 |none=> .no
noncomputable def aau(d:V D4)(x:Pd)(a:Y)(t:Tr)(e:Ms)(k:Y)(f:V Y):Rs:=match jz t x with
 |some v=>(match IG v a with
  |some u=>tF d u t e (k+1) f .n
  |none=> .no)
 |none=> .no
noncomputable def aav(a:TT)(d:V D4)(e:Y)(x:Pd)(t:Tr)(f:Ms)(k:Y)(g:V Y):Rs:=match jz t x with
 |some v=>(match Z' a e v with
  |some u=>tF d u t f (k+1) g .n
  |none=> .no)
 |none=> .no
noncomputable def aaw(e:TT)(d:V D4)(f:Y)(x:Pd)(t:Tr)(a:Ms)(k:Y)(g:V Y):Rs:=match jz t x with
 |some v=>(match R' e a f v with
  |some (u,ids)=>tF d u t a (k+1) g<|.m ids []
  |none=> .no)
 |none=> .no
noncomputable def aax(d a:Y)(e:aE)(f:V C)(t:Tr)(g:Ms)(k:Y)(i:V Y):Rs:=match tD k f with
 |true=> .ok t (pH a e g) (k+1) (A' d a i)<|.m [a] [a]
 |false=> .no
noncomputable def aay(d:TT)(e:Y)(f:Y)(x g:Pd)(t:Tr)(a:Ms)(k:Y)(i:V Y):Rs:=match jz t x,jz t g with
 |some v,ad w=>(match Sa d a f v w with
  |some (id,b,us)=>aax e id b us t a k i
  |none=> .no)
 |_,_=> .no
noncomputable def alj(g:TT)(n i:Y)(d:ar (Y×V D4))(e:V (Y×V D4))(op:Op)(t:Tr)(f:Ms)(k:Y)(l:V Y):Rs:=match nh e t with
 |a=>Sb g n i d e op t f k l a<|r9 (yU a) f
noncomputable def aaz(a:lS)(e:Y)(d:V D4)(f:jA)(args:V Pd)(t:Tr)(g:Ms)(k:Y)(i:V Y):Rs:=match w7 t args with
 |some vs=>DP a e d f vs t g k i
 |none=> .no
noncomputable def aaA(a:lS)(i:Y)(d:V D4)(x:Pd)(args:V Pd)(t:Tr)(g:Ms)(k:Y)(l:V Y):Rs:=match w7 t args with
 |some vs=>(match jz t x with
  |some (.c<|.V<|.func (.func f) ⟨[]⟩ ⟨[]⟩)=>DP a i d f vs t g k l
  |some (.c<|.X id)=>(match bu id g with
   |some (.gM f first e)=>(match rF first,rF e with
    |some us,ad ws=>DP a i d f (us++(vs++ws)) t g k l
    |_,_=> .no)
   |_=> .no)
  |_=> .no)
 |none=> .no
noncomputable def pI(e:lS)(a:TT)(n g:Y)(i:Mg):Tr->Ms->Y->V Y->Rs:=match i with
 | .mv d x=>Sc d x
 | .bin d op ty x y=>aar a d op ty x y
 | .idx d ty x i=>aas a d ty x i
 | .Z7 d ty x f=>aat a d ty x f
 | .ext d x j=>aau d x j
 | .len d ty x=>aav a d ty x
 | .ld d ty x=>aaw a d ty x
 | .st ty x y=>aay a g ty x y
 | .gen d sl op=>alj a n g d sl op
 | .call d f args=>aaz e g d f args
 | .Z8 d x args=>aaA e g d x args
structure GI where
 g:ar (V D4×Bool)
 d:ar (V D4)
 i:Mg
noncomputable def uZ(a:lS)(l:TT)(n m:Y)(x:GI)(t:Tr)(e:Ms)(k:Y)(f:V Y):Rs:=match x.g with
 |none=>pI a l n m x.i t e k f
 |some (o,want)=>(match iZ o t with
  |some (.c<|.B b)=>(match b==want with
   |true=>pI a l n m x.i t e k f
   |false=>(match x.d with
    |some d=> .ok (DH d t) e (k+1) f .n
    |none=> .no))
  |_=> .no)
noncomputable def u5(a:lS)(i:TT)(n m:Y)(l:V GI):Tr->Ms->Y->V Y->Rs:=kp (motive:=λ_=>Tr->Ms->Y->V Y->Rs)
 (λt d k e=> .ok t d k e .n)
 (λx _ o t d k e=>match uZ a i n m x t d k e with
  | .ok p f q g _=>o p f q g
  | .no=> .no) l
inductive Rd where
 |no
 |ok (t:Tr) (ms:Ms) (k:Y) (a:V Y) (fs:V Ft)
noncomputable def xa(a:lS)(o:TT)(n p:Y)(l:V GI):Tr->Ms->Y->V Y->V Ft->Rd:=kp (motive:=λ_=>Tr->Ms->Y->V Y->V Ft->Rd)
 (λt d k e g=> .ok t d k e g)
 (λx _ q t d k e g=>match uZ a o n p x t d k e with
  | .ok s i u m f=>q s i u m<|f::g
  | .no=> .no) l
def DQ:V Y->V Y->Bool
 |[],_=>ah
 |x::a,l=>match Ba x l with
  |true=>ae
  |false=>DQ a l
def HE(k a:Y)(d:V Y):V Y->Bool
 |[]=>ah
 |x::e=>match Ba x d with
  |true=>ae
  |false=>(match dT k x&&dj x a with
   |true=>ae
   |false=>HE k a d e)
def HG(k:Y):V Y->Bool
 |[]=>ah
 |x::a=>match dj x k with
  |true=>ae
  |false=>HG k a
def Bc:Ft->Ft->Bool
 | .n,_=>ah
 |_,.n=>ah
 | .m d a,.m g f=>DQ a f||DQ a g||DQ d f
 | .m d a,.c k e wl=> !a.isEmpty||HE k e wl d
 | .c k e wl,.m d a=>HG k a||HG e a||HE k e wl d
 | .c _ _ _,.c _ _ _=>ae
def DR(a:V Ft):V (Y×Y)->Bool
 |[]=>ae
 | (i,d)::e=>match Bc (a.getD i .n) (a.getD d .n)with
  |true=>ah
  |false=>DR a e
def ou:Op->V dS
 | .call ⟨.value a,args,_⟩=>a::args.toList
 |op=>op.operands.toList
def slotsOf:V dS->V Y
 |[]=>[]
 | .tmp d::a=>d::slotsOf a
 |_::a=>slotsOf a
def DS(dep n:Y):V Y->ar (V<|Y×V D4)
 |[]=>ad []
 |a::d=>(match dj a n,DS dep n d with
  |true,ad l=>ad<|(a,cP dep a)::l
  |_,_=>none)
def Mn(dep n:Y)(d:ar Y)(op:Op):ar Mg:=match DS dep n (slotsOf op.operands.toList)with
 |some sl=>(match d with
  |some d=>ad<|.gen (ad (d,cP dep d)) sl op
  |none=>ad<|.gen none sl op)
 |none=>none
def HH(dep n:Y)(d:ar Y)(op:Op):ar Mg:=match d with
 |none=>(match op with
  | .store t x y=>(match il dep n x,il dep n y with
   |some p,ad q=>ad<|.st t p q
   |_,_=>none)
  |op=>Mn dep n none op)
 |some d=>(match dj d n with
  |false=>none
  |true=>(match op with
   | .move x=>(match il dep n x with
    |some p=>ad<|.mv (cP dep d) p
    |none=>none)
   | .assign x=>(match il dep n x with
    |some p=>ad<|.mv (cP dep d) p
    |none=>none)
   | .binOp o t x y _=>(match il dep n x,il dep n y with
    |some p,ad q=>ad<|.bin (cP dep d) o t p q
    |_,_=>none)
   | .indexAddr t x y=>(match il dep n x,il dep n y with
    |some p,ad q=>ad<|.idx (cP dep d) t p q
    |_,_=>none)
   | .fieldAddr t x f=>(match il dep n x with
    |some p=>ad<|.Z7 (cP dep d) t p f
    |none=>none)
   | .extract x j=>(match il dep n x with
    |some p=>ad<|.ext (cP dep d) p j
    |none=>none)
   | .load t x=>(match il dep n x with
    |some p=>ad<|.ld (cP dep d) t p
    |none=>none)
   | .call ⟨.value<|.func f,args,_⟩=>(match w8 dep n args.toList with
    |some ps=>ad<|.call (cP dep d) f ps
    |none=>none)
   | .call ⟨.value<|.tmp j,args,_⟩=>(match il dep n (.tmp j),w8 dep n args.toList with
    |some p,ad ps=>ad<|.Z8 (cP dep d) p ps
    |_,_=>none)
   | .call ⟨.builtin .len,⟨[x]⟩,⟨[t]⟩⟩=>(match il dep n x with
    |some p=>ad<|.len (cP dep d) t p
    |none=>none)
   |op=>Mn dep n (ad d) op))
def Sd(dep n:Y)(a:V aX)(o:aX):ar GI:=match HH dep n o.dst o.op with
 |some i=>(match o.guard with
  |none=>ad ⟨none,none,i⟩
  |some (j,want)=>(match p7 a j with
   |some e=>(match dj e n with
    |true=>(match o.dst with
     |some d=>ad ⟨ad (cP dep e,want),ad<|cP dep d,i⟩
     |none=>ad ⟨ad (cP dep e,want),none,i⟩)
    |false=>none)
   |none=>none))
 |none=>none
def u6(dep n:Y)(a:V aX):V aX->ar (V GI)
 |[]=>ad []
 |o::os=>(match Sd dep n a o,u6 dep n a os with
  |some g,ad gs=>ad<|g::gs
  |_,_=>none)
def xb(a:V aX)(o:aX):Ks:=
 ((match o.guard with
  |none=>bD<|ou o.op
  |some (j,_)=>(match p7 a j with
   |some e=> .s e::bD (ou o.op)
   |none=>bD<|ou o.op)),
  match o.dst with
  |some d=>[.s d]
  |none=>[])
def ni(o:aX):Bool:=match o.dst with
 |none=>ae
 |some _=>(match o.op with
  | .move _=>ah
  | .assign _=>ah
  | .binOp _ _ _ _ _=>ah
  | .indexAddr _ _ _=>ah
  | .fieldAddr _ _ _=>ah
  | .extract _ _=>ah
  |_=>ae)
def DT(m a:Y):V aX->Y->V (Y×Y)
 |[],_=>[]
 |o::os,i=>if i<a then(if ni o&& !m.testBit i then(i,a)::DT m a os (i+1)else DT m a os (i+1))else[]
def DU(a:V aX):V Y->V aX->Y->V (Y×Y)
 |m::ms,o::os,d=>if ni o then DT m d a 0++DU a ms os (d+1)else DU a ms os (d+1)
 |_,_,_=>[]
def Mp(dep n:Y)(a:V aX)(d:Bool):ar (V GI×ar (V<|Y×Y)):=match u6 dep n a a with
 |some gs=>(match d with
  |false=>ad (gs,none)
  |true=>if ry a (a.map<|xb a)=ae then ad (gs,ad<|DU a (oM a []) a 0)else none)
 |none=>none
def DV{a d:Type}(f:a->d->Bool):V a->V d->Bool
 |[],[]=>ae
 |x::xs,e::g=>f x e&&DV f xs g
 |_,_=>ah
def kq.tG:ET->ET->Bool
 | .int k,.int a=>decide<|k=a
 | .bool,.bool=>ae
 | .z,.z=>ae
 | .q,.q=>ae
 | .sl d,.sl e=>kq.tG d e
 | .pr f B,.pr g i=>kq.tG f g&&kq.tG B i
 |_,_=>ah
def kq:(d e:ET)->d.den->e.den->Bool
 | .int k,.int i,(n:Int),(m:Int)=>decide (k=i)&&decide (n=m)
 | .bool,.bool,(a:Bool),(f:Bool)=>a==f
 | .z,.z,(n:Int),(m:Int)=>decide<|n=m
 | .q,.q,(a:Rat),(f:Rat)=>decide (a.num=f.num)&&decide (a.den=f.den)
 | .sl d,.sl e,(xs:V d.den),(l:V e.den)=>kq.tG d e&&DV (λx g=>kq d e x g) xs l
 | .pr o B,.pr p s,x,g=>kq o p x.1 g.1&&kq B s x.2 g.2
 |_,_,_,_=>ah
def alk:∀{d a:ET},kq.tG d a=ae->d=a:=by
 intro d;induction d with
 |int k=>intro a h;cases a<;>simp[kq.tG]at h;rw[h]
 |bool=>intro a h;cases a<;>simp[kq.tG]at h;rfl
 |z=>intro a h;cases a<;>simp[kq.tG]at h;rfl
 |q=>intro a h;cases a<;>simp[kq.tG]at h;rfl
 |sl d g=>intro a h;cases a<;>simp[kq.tG]at h;rw[g h]
 |pr A B e f=>intro a h;cases a<;>simp[kq.tG]at h;rw[e h.1,f h.2]
def aaB{d:Type}{f:d->d->Bool}(i:∀x e,f x e=ae->x=e):∀{xs g:V d},DV f xs g=ae->xs=g
 |[],[],_=>rfl
 |x::xs,e::g,a=>by simp only[DV,cw]at a;rw[i _ _ a.1,aaB i a.2]
 |[],_::_,a=>by simp[DV]at a
 |_::_,[],a=>by simp[DV]at a
def alm:∀(d:ET)(x a:d.den),kq d d x a=ae->x=a:=by
 intro d;induction d with
 |int k=>intro x a h;simp only[kq,cw,decide_eq_true_eq]at h;exact h.2
 |bool=>intro x a h;exact eq_of_beq h
 |z=>intro x a h;exact aT h
 |q=>intro x a h;simp only[kq,cw,decide_eq_true_eq]at h;exact Rat.ext h.1 h.2
 |sl d g=>intro x a h;simp only[kq,cw]at h;exact aaB g h.2
 |pr A B e f=>intro x a h;simp only[kq,cw]at h;exact Prod.ext (e _ _ h.1)<|f _ _ h.2
def DW{a:Type}(f:a->V C->Bool)(n:Y):V C->V a->Bool
 |_,[]=>ae
 |cs,x::xs=>f x (h n cs)&&DW f n (az n cs) xs
def aln(a:Y):ar Y->Bool
 |none=>ae
 |some d=>dT a d
def HI(d:Y->ar aE)(a:ET)(f:a.den->V C->Bool)(e:C)(xs:V a.den):Bool:=
 match e with
 | .S g i=>kq (.sl g) (.sl a) i xs
 | .V (.slice none 0 0)=>xs.isEmpty
 | .L id off len cap=>gG len (Z xs)&&dT (len*a.n) 140737488355328&&aln len cap&&(match d id with
  |some (.box _ _ cs)=>DW f a.n (az off cs) xs
  |some (.fz _ cs)=>DW f a.n (az off cs) xs
  |_=>ah)
 |_=>ah
def HJ(d:Y->ar aE)(a:Int):V C->Bool
 |[.B s,e]=>(s==bY a)&&HI d (.int .u32) (λn f=>match f with|[.I .u32 m]=>decide (m=n)|_=>ah) e (dP a)
 |_=>ah
def u7(d:Y->ar aE):(e:ET)->e.den->V C->Bool
 | .int k,n,a=>(match a with|[.I i m]=>decide (i=k)&&decide (m=n)|_=>ah)
 | .bool,l,a=>(match a with|[.B o]=>o==l|_=>ah)
 | .z,p,a=>HJ d p a
 | .q,g,a=>HJ d g.num (h 2 a)&&HJ d (g.den:Int) (az 2 a)
 | .sl e,xs,a=>(match a with|[s]=>HI d e (λx a=>u7 d e x a) s xs|_=>ah)
 | .pr f B,x,a=>u7 d f x.1 (h f.n a)&&u7 d B x.2 (az f.n a)
def Mq(a:Y->ar aE):C->C->Bool
 | .B e,.B f=>e==f
 | .I k n,.I g i=>decide (k=g)&&decide (n=i)
 |l,.S d xs=>HI a d (u7 a d) l xs
 |_,.any=>ae
 |_,_=>ah
def vb(a:Y->ar aE):V C->V C->Bool
 |[],[]=>ae
 |e::cs,d::ds=>Mq a e d&&vb a cs ds
 |_,_=>ah
def DX(a:Y->ar aE):V (Bool×V C)->V (Bool×V C)->Bool
 |[],[]=>ae
 | (d,cs)::e,(f,ds)::g=>(d==f)&&vb a cs ds&&DX a e g
 |_,_=>ah
def Bd(d:Y->ar aE):AV->AV->Bool
 | .c x,.c e=>Mq d x e
 | .a cs,.a ds=>vb d cs ds
 | .t f,.t g=>DX d f g
 |_,_=>ah
section
variable{F:eK}{g:Gh}{W:World}{lk:Y->ar aE}
structure vd(e:FH)(g:Gh)(W:World)(lk:Y->ar aE):Prop where
 le:cD g.H e
 cz:∀a E d,((∃sz,lk a=ad (.box E sz d))\/lk a=ad (.fz E d))->∃b,∃vs rest:V aO,El.cz (g.γ a)=ad b/\(∀o,e b o=W.cell? ⟨b,o,none⟩)/\W.heap[b]? =ad (.cells (vs++rest).toArray E (0,0))/\aR g d vs
variable{HF:FH}
def aaC{d:Type}{R:d->V aO->Prop}{f:d->V C->Bool}{n:Y}(e:∀x a vs,f x a=ae->aR g a vs->R x vs)(l:∀x vs,R x vs->Z vs=n):∀(xs:V d){a:V C}{vs:V aO},DW f n a xs=ae->aR g a vs->∀i(h:i<Z xs),R xs[i] ((az (i*n) vs).take n)
 |[],_,_,_,_,i,h=>by simp at h
 |x::xs,a,vs,hm,k,i,h=>by
  simp only[DW,cw]at hm;cases i with
  |zero=>simp only[rB,oQ,tX];exact e _ _ _ hm.1<|k.take n
  |succ i=>
   have:=aaC e l xs hm.2 (k.drop n) i dL
   rw[oN,(EI:n+i*n=(i+1)*n)]at this
   simpa using this
def Se(t:vd HF g W lk){T}{f:T.den->V C->Bool}(hf:∀x d vs,f x d=ae->aR g d vs->cV HF T x vs){e}{xs}{v}(k:HI lk T f e xs=ae)(m:cQ g e v):kX (cV HF T) T.n HF xs v:=by
 unfold HI at k;split at k
 .rename_i u r;have w:u=T:=by simp only[kq,cw]at k;exact alk k.1
  subst w;have:=alm (.sl u) r xs k;subst this;exact kX.mono m t.le<|λx d=>cV.mono t.le u x d
 .have:xs=[]:=List.isEmpty_iff.1 k;subst this;simp only[cQ]at m;exact⟨none,0,m,aW _,ax,.inl J⟩
 .rename_i B a y H;simp only[cw]at k;let ⟨⟨⟨K,L⟩,z⟩,l⟩:=k;have K:=kI K;have L:=c9 L;subst K;have l:∃E d,((∃sz,lk B=ad (.box E sz d))\/lk B=ad (.fz E d))/\DW f T.n (az a d) xs=ae:=by
   split at l
   .rename_i E sz d o;exact⟨E,d,.inl ⟨sz,o⟩,l⟩
   .rename_i E d o;exact⟨E,d,.inr o,l⟩
   .cases l
  .let ⟨E,d,o,l⟩:=l;let ⟨b,vs,rest,q,A,hh,P⟩:=t.cz B E d o;have p:=aaC (R:=cV HF T) hf (λx vs h=>cV.length T x vs h) xs l<|P.drop a;have Q:∃e,v= .slice (ad ⟨b,a,none⟩) (Z xs) e/\Z xs<=e:=by
    cases H with
    |none=>
     let ⟨D,G,e,s,U,I⟩:=m
     rw[s]at q
     simp only[El.cz,au]at q
     subst q
     exact⟨e,by rw[D];exact U,I⟩
    |some e=>
     let ⟨G,s,U⟩:=m
     rw[q]at s
     cases s
     exact⟨e,U,c9 z⟩
   let ⟨e,Q,hc⟩:=Q;refine⟨ad ⟨b,a,none⟩,e,Q,hc,L,?_⟩;by_cases hx:xs=[]
   .exact .inl hx
   .refine .inr ⟨b,a,J,λi X=>⟨_,cV.length T _ _<|p i X,p i X,λj M=>?_⟩⟩;rw[A];simp only[fQ,Cj]at M;simp only[pX,sx];rw[(O:a+i*T.n+j=a+(i*T.n+j))];simp only[B0,hh,tW];rw[B4 O];exact cK O
 .cases k
def Sf(n:vd HF g W lk){l}{f}{vs}(a:HJ lk l f=ae)(o:aR g f vs):pQ HF l vs:=by
 unfold HJ at a;split at a
 .rename_i b c;simp only[cw]at a;obtain⟨v,r,rfl,d,p,q,rfl,e,m⟩:=o;simp only[aR]at m;simp only[cQ]at d;subst m d;rw[eq_of_beq a.1];refine⟨p,J,Se (T:= .int .u32) n ?_ a.2 e⟩;intro x f vs i k;split at i
  .obtain⟨u,r,rfl,d,e⟩:=k;simp only[aR]at e;simp only[cQ]at d;subst e d;rw[aT i];rfl
  .cases i
 .cases a
def alo(m:vd HF g W lk):∀(l:ET)(x:l.den)(e:V C)(vs:V aO),u7 lk l x e=ae->aR g e vs->cV HF l x vs:=by
 intro l;induction l with
 |int k=>
  intro x e vs a d
  simp only[u7]at a
  split at a
  .obtain⟨u,r,rfl,i,f⟩:=d;simp only[aR]at f;simp only[cQ]at i;simp only[cw,decide_eq_true_eq]at a;subst f i;rw[a.1,a.2];rfl
  .cases a
 |bool=>
  intro x e vs a d
  simp only[u7]at a
  split at a
  .obtain⟨u,r,rfl,i,f⟩:=d;simp only[aR]at f;simp only[cQ]at i;subst f i;rw[eq_of_beq a];rfl
  .cases a
 |z=>intro x e vs a d;exact Sf m a d
 |q=>
  intro x e vs a d
  simp only[u7,cw]at a
  exact⟨h 2 vs,az 2 vs,(q8 2 vs).symm,Sf m a.1<|d.take 2,Sf m a.2<|d.drop 2⟩
 |sl l s=>
  intro x e vs a d
  simp only[u7]at a
  split at a
  .obtain⟨u,r,rfl,i,f⟩:=d;simp only[aR]at f;subst f;exact⟨u,J,Se m s a i⟩
  .cases a
 |pr A B o p=>
  intro x e vs a d
  simp only[u7,cw]at a
  exact⟨h A.n vs,az A.n vs,(q8 _ vs).symm,o _ _ _ a.1<|d.take _,p _ _ _ a.2<|d.drop _⟩
def Sg(f:vd HF g W lk){i d}{v}(a:Mq lk i d=ae)(e:cQ g i v):cQ ⟨HF,jI⟩ d v:=by
 unfold Mq at a;split at a
 .rw[<-eq_of_beq a];exact e
 .simp only[cw,decide_eq_true_eq]at a;rw[<-a.1,<-a.2];exact e
 .exact Se f (alo f _) a e
 .trivial
 .cases a
def Sh(i:vd HF g W lk):∀{a e:V C}{vs:V aO},vb lk a e=ae->aR g a vs->aR ⟨HF,jI⟩ e vs
 |[],[],_,_,f=>f
 |n::a,d::e,_,hm,f=>by simp only[vb,cw]at hm;obtain⟨v,k,rfl,l,m⟩:=f;exact⟨v,k,J,Sg i hm.1 l,Sh i hm.2 m⟩
 |[],_::_,_,hm,_=>by simp[vb]at hm
 |_::_,[],_,hm,_=>by simp[vb]at hm
def aaD(f:vd HF g W lk):∀{i k:V (Bool×V C)}{vs:V aO},DX lk i k=ae->fa g i vs->fa ⟨HF,jI⟩ k vs
 |[],[],_,_,l=>l
 | (n,cs)::i,(p,ds)::k,_,hm,l=>by
  simp only[DX,cw]at hm;let ⟨⟨m,hc⟩,ht⟩:=hm;have m:=eq_of_beq m;subst m;obtain⟨v,r,rfl,a,o⟩:=l;refine⟨v,r,J,?_,aaD f ht o⟩;cases n with
  |true=>let ⟨us,e,a⟩:=a;exact⟨us,e,Sh f hc a⟩
  |false=>
   match cs,ds,hc,a with
   |[c],[d],hc,a=>simp only[vb,cw]at hc;exact Sg f hc.1 a
   |[c],[],hc,_=>simp[vb]at hc
   |[c],_::_::_,hc,_=>simp[vb]at hc
   |[],_,_,a=>exact a.elim
   |_::_::_,_,_,a=>exact a.elim
 |[],_::_,_,hm,_=>by simp[DX]at hm
 |_::_,[],_,hm,_=>by simp[DX]at hm
def aaE(d:vd HF g W lk){x f}{v}(a:Bd lk x f=ae)(i:bA g x v):bA ⟨HF,jI⟩ f v:=by
 cases x<;>cases f<;>simp only[Bd]at a<;>try cases a
 .exact Sg d a i
 .let ⟨vs,e,h⟩:=i;exact⟨vs,e,Sh d a h⟩
 .let ⟨vs,e,h⟩:=i;exact⟨vs,e,aaD d a h⟩
end
def qO(a:Y->ar aE):V AV->V AV->Bool
 |[],[]=>ae
 |x::xs,d::e=>Bd a x d&&qO a xs e
 |_,_=>ah
def aaF{e:Y->ar aE}{f:FH}{g:Gh}{W:World}(i:vd f g W e):∀{xs a:V AV}{vs:V aO},qO e xs a=ae->eQ g xs vs->eQ ⟨f,jI⟩ a vs
 |[],[],_,_,d=>d
 |x::xs,n::a,_,hm,d=>by simp only[qO,cw]at hm;obtain⟨v,k,rfl,l,m⟩:=d;exact⟨v,k,J,aaE i hm.1 l,aaF i hm.2 m⟩
 |[],_::_,_,hm,_=>by simp[qO]at hm
 |_::_,[],_,hm,_=>by simp[qO]at hm
def aaG{d:Y->ar aE}:∀{xs a:V AV},qO d xs a=ae->Z a=Z xs
 |[],[],_=>rfl
 |x::xs,e::a,hm=>by simp only[qO,cw]at hm;simp[aaG hm.2]
 |[],_::_,hm=>by simp[qO]at hm
 |_::_,[],hm=>by simp[qO]at hm
section
variable{P:bS}
def aaH{g}:∀(vs:V AV)(a:V aO)(i:Y)(all:V aO),Z a=Z vs->(∀f,f<Z a->all[i+f]? =a[f]?)->(∀t v,S t (dr i vs)=ad v->bA g v (all.toArray.getD t undef))->eQ g vs a:=by
 intro vs;induction vs with
 |nil=>intro a i all hl _ _;exact fE tY
 |cons x vs s=>
  intro a i all hl d o
  cases a with
  |nil=>simp at hl
  |cons u a=>
   refine⟨u,a,J,?_,s a (i+1) all tY ?_ ?_⟩
   .have B:=o i x (by simp[dr,S]);have p:=d 0 ax;simp only[iR,l3]at p;simpa[p]using B
   .intro f hj;have:=d (f+1) nt;rw[(O:i+1+f=i+(f+1))];simpa using this
   .intro t v q;refine o t v ?_;have m:∀(l:V AV)(k:Y),i<k->∀v,S i (dr k l)=ad v->False:=by
     intro l;induction l with
     |nil=>intro k _ v h;simp[dr,S]at h
     |cons y l n=>
      intro k C v h
      simp only[dr,S]at h
      split at h
      .omega
      .exact n (k+1) O v h
    simp only[dr,S];split
    .rename_i e;subst e;exact(m vs (i+1) O v q).elim
    .exact q
def DY:aE->aE
 | .box a _ cs=> .fz a cs
 |d=>d
def aaI a:(DY a).ak=a.ak:=by cases a<;>rfl
open Classical in
def alp{f}{vs L}{aV}(cq:r P f L aV)(hm:cF L=[]){fm U}(tH:V Y)(hD:∀d,S d U=if d∈tH then(S d fm).map DY else S d fm){lk:Y->ar aE}(oa:∀d i,lk d=ad i->d∈tH/\S d fm=ad i)(aaJ:qO lk vs L=ae) k:CX P f vs fm k aV U k:=by
 refine⟨cq.call,aW _,?_⟩;intro F g W us hn mb q;have AE:eQ g vs us:=aaH vs us 0 us mb (λj hj=>ax) (λt v ht=>q.eE t v<|by simp[St.kn,ht]);have q':∀d,St.kn ⟨dr 0 vs,fm,0,[]⟩ (.m d)=(S d fm).map .b:=λ_=>rfl
 let B:Y->Prop:=λi=>∃d E sz X,d∈tH/\S d fm=ad (.box E sz X)/\cz (g.γ d)=ad i
 let c:FH:=λi o=>if B i then W.cell? ⟨i,o,none⟩else g.H i o
 have hBz:∀i,B i->(∀o,g.H i o=none)/\F.N i:=by rintro i ⟨d,E,sz,X,_,hl,Q⟩;let ⟨b',ws,rest,G,e2,e3,e4,e5,_⟩:=q.cL d (.box E sz X) yV;rw[Q]at G;cases G;exact⟨e5,e4⟩
 have Z:cD g.H c:=by
  intro i o v hv;by_cases e:B i
  .rw[(hBz i e).1]at hv;cases hv
  .simp only[c,e,bL];exact hv
 have ok:vd c g W lk:=by
  refine⟨Z,λd E X hl=>?_⟩;rcases hl with⟨sz,hl⟩|hl
  .let ⟨p,hl⟩:=oa d _ hl;let ⟨i,ws,rest,G,e2,e3,e4,e5,_⟩:=q.cL d (.box E sz X) yV;have hB:B i:=⟨d,E,sz,X,p,hl,G⟩;exact⟨i,ws,rest,G,λo=>by simp only[c,hB,b7],e2,e3⟩
  .let ⟨p,hl⟩:=oa d _ hl;let ⟨i,ws,rest,G,e2,e3,e4,e5⟩:=q.cL d (.fz E X) yV;have I:¬B i:=by rintro⟨z,E',sz,cs',aaL,K,M⟩;have:=q.inj d z (.fz E X) (.box E' sz cs') i yV (by rw[q',K];rfl) G M;subst this;rw[hl]at K;cases K
   exact⟨i,ws,rest,G,λo=>by simp only[c,I,bL,e5];simp[B0,e2],e2,e3⟩
 have O:=aaF ok aaJ AE;have vU:Sub c W:=by
  intro i o v hv;by_cases e:B i
  .simp only[c,e,b7]at hv;exact hv
  .simp only[c,e,bL]at hv;exact q.sub i o v hv
 have hlen:=aaG aaJ;have h2:br F (·<k) (St.kn ⟨dr 0 L,U,0,[]⟩) ⟨c,g.γ⟩ W (me us):=by
  have hM:∀d i,St.kn ⟨dr 0 L,U,0,[]⟩ (.m d)=ad (.b i)->∃l,S d fm=ad l/\((d∉tH/\i=l)\/(d∈tH/\i=DY l)):=by
   intro d i Q;have e:St.kn ⟨dr 0 L,U,0,[]⟩ (.m d)=(S d U).map .b:=rfl;rw[e,hD]at Q;split at Q
   .rename_i hd;cases hl:S d fm with
    |none=>rw[hl]at Q;cases Q
    |some l=>rw[hl]at Q;cases Q;exact⟨l,J,.inr ⟨hd,J⟩⟩
   .rename_i js;simp only[cu]at Q;let ⟨x,A,he⟩:=Q;cases he;exact⟨_,A,.inl ⟨js,J⟩⟩
  have w:∀d i,St.kn ⟨dr 0 L,U,0,[]⟩ (.m d)=ad (.b i)->∃l,S d fm=ad l/\i.ak=l.ak:=by
   intro d i Q;let ⟨l,hl,cq⟩:=hM d i Q;refine⟨l,hl,?_⟩;rcases cq with⟨_,rfl⟩|⟨_,rfl⟩
   .rfl
   .exact aaI l
  refine⟨q.size,q.defers,?_,?_,?_,?_,?_,vU,q.below,q.le.trans Z,?_,q.fS⟩
  .intro t v ht;simp only[St.kn,cu]at ht;let ⟨x,A,he⟩:=ht;cases he;let ⟨_,u,hu,hr,w⟩:=mW L us 0 O t v A;have vz:us[t]? =ad u:=vN;simp only[me,nQ,tW,vz,pS];refine hr.iy ?_ (cD.refl _) g.γ;refine OE.2<|λd p=>?_;have:=w d p;rw[hm]at this;cases this
  .intro d i Q;let ⟨l,hl,alr⟩:=hM d i Q;have R:St.kn ⟨dr 0 vs,fm,0,[]⟩ (.m d)=ad (.b l):=yV;have xZ:=q.cL d l R;have C:(∀E sz X,l= .box E sz X->d∉tH)->fB F.N ⟨c,g.γ⟩ W d l:=by
    intro jY;refine xZ.v7 (known:=(·<k)) ⟨Z,λ_ _=>rfl⟩ (q.dQ d _ R) (λj hj=>q.ak _ _ R j hj)<|λkk kH=>⟨J,λo=>?_⟩;have I:¬B kk:=by rintro⟨z,E,sz,X,aaL,K,M⟩;have:=q.inj d z l (.box E sz X) kk R (by rw[q',K];rfl) kH M;subst this;rw[hl]at K;cases K;exact jY E sz X J aaL
    simp only[c,I,bL]
   rcases alr with⟨js,rfl⟩|⟨hd,rfl⟩
   .exact C<|λ_ _ _ _=>js
   .cases l with
    |box E sz X=>
     let ⟨i,ws,rest,G,e2,e3,e4,e5,_⟩:=xZ
     have hB:B i:=⟨d,E,sz,X,hd,hl,G⟩
     exact⟨i,ws,rest,G,e2,aR.mono (known:=(·<k)) (g:=g) (g':=⟨c,g.γ⟩) ⟨Z,λ_ _=>rfl⟩ (λj hj=>q.ak _ _ R j hj) e3,e4,λo=>by simp only[c,hB,b7];simp[B0,e2]⟩
    |vec E T xs=>exact C<|λ_ _ _ e=>ve
    |gM f a i=>exact C<|λ_ _ _ e=>ve
    |fz E X=>exact C<|λ_ _ _ e=>ve
    |mp ka va xs=>exact C<|λ_ _ _ e=>ve
    |it m n seen=>exact C<|λ_ _ _ e=>ve
  .intro d z i b' kk Q M h1 h2;let ⟨l,hl,_⟩:=hM d i Q;let ⟨b1,K,_⟩:=hM z b' M;exact q.inj d z l b1 kk yV (by rw[q',K];rfl) h1 h2
  .intro key x A d p;cases key with
   |m j=>
    cases x with
    |b b'=>
     let ⟨l,hl,mc⟩:=w j b' A
     have p:d∈b'.ak:=p
     rw[mc]at p
     exact q.ak (.m j) (.b l) yV d p
    |v v'=>simp only[St.kn,cu]at A;let ⟨_,_,he⟩:=A;cases he
   |s t=>
    simp only[St.kn,cu]at A
    let ⟨y,hy,he⟩:=A
    subst he
    let ⟨_,_,_,_,h6⟩:=mW L us 0 O t y hy
    have:=h6 d p
    rw[hm]at this
    cases this
  .intro d x A;cases x with
   |b b'=>let ⟨l,hl,_⟩:=w d b' A;exact q.dQ d (.b l) yV
   |v v'=>simp only[St.kn,cu]at A;let ⟨_,_,he⟩:=A;cases he
  .intro i o Q jY;have I:¬B i:=by
    intro e;rcases(hBz i e).2 with h1|h1
    .omega
    .exact jY h1
   simp only[c,I,bL];exact q.fresh i o Q jY
 exact(ag0 cq hm U k).spec F ⟨c,g.γ⟩ W us (by rw[hlen];exact hn) (by rw[hlen];exact mb) h2
end
inductive Rc where
 |no
 |dc (t:Tr) (ms:Ms) (k:Y) (a:V Y)
 |fW (d:Y) (t:Tr) (ms:Ms) (k:Y) (a:V Y)
 |ret (t:Tr) (ms:Ms) (k:Y) (a:V Y)
def eC(n:Y):Y:=if n<=16 then 2 else if n<=64 then 3 else if n<=256 then 4 else if n<=1024 then 5 else 6
noncomputable def mC(dep:Y)(vs:V AV):Y->Tr->Tr:=kp (motive:=λ_=>Y->Tr->Tr) (λ_ t=>t)
 (λv _ a i t=>a (i+1)<|jk (cP dep i) v t) vs
noncomputable def HK(d:TT)(dep n:Y)(t:Tr)(e:Ms):ResultVar->ar AV
 | .tmp a=>(match dj a n with
  |true=>iZ (cP dep a) t
  |false=>none)
 | .cell a ty=>(match dj a n with
  |true=>(match iZ (cP dep a) t with
   |some (.c<|.P id off)=>(match bu id e,oK d ty with
    |some (.box _ _ cs),ad (sz,f)=>mM cs off sz f
    |_,_=>none)
   |_=>none)
  |false=>none)
noncomputable def Mr(a:TT)(dep n:Y)(t:Tr)(d:Ms):V ResultVar->ar (V<|Bool×V C)
 |[]=>ad []
 |x::xs=>(match HK a dep n t d x with
  |some v=>(match qf v,Mr a dep n t d xs with
   |some s,ad e=>ad<|s::e
   |_,_=>none)
  |none=>none)
noncomputable def DZ(a:TT)(dep n:Y)(t:Tr)(d:Ms):V ResultVar->ar AV
 |[x]=>HK a dep n t d x
 |xs=>(match Mr a dep n t d xs with
  |some e=>ad<|.t e
  |none=>none)
noncomputable def xc:Y->Mem->V Y->Mem->Mem
 |0,_,_,acc=>acc
 |_+1,_,[],acc=>acc
 |f+1,own,id::todo,acc=>match lR id acc with
  |some _=>xc f own todo acc
  |none=>(match lR id own with
   |some a=>xc f own (a.ak++todo)<|(id,a)::acc
   |none=>xc f own todo acc)
noncomputable def Be(k:Y)(a:Ms):V Y->Bool
 |[]=>ae
 |id::d=>(match dT k id with
  |true=>Be k a d
  |false=>(match bu id a with
   |some _=>Be k a d
   |none=>ah))
noncomputable def Mt(k:Y)(a:Ms):Mem->Bool
 |[]=>ae
 | (id,d)::e=>(match dT k id with
  |true=>(match Be k a d.ak with
   |true=>Mt k a e
   |false=>ah)
  |false=>ah)
noncomputable def D0(k:Y)(d a:Ms):V Y->Bool
 |[]=>ae
 |id::e=>(match bu id a with
  |some f=>(match Be k d f.ak with
   |true=>D0 k d a e
   |false=>ah)
  |none=>D0 k d a e)
noncomputable def Si(k:Y)(l:Mem):Bool:=kp (motive:=λ_=>Bool) ae (λh _ a=>yR (motive:=λ_=>Bool) ah a<|dT k h.1) l
def yW(a:Mem):Ms->Ms
 |m::d=>(a++m)::d
 |[]=>[a]
noncomputable def HL(a:Ms):V Y->V Y
 |[]=>[]
 |id::d=>(match bu id a with
  |some e=>e.ak++HL a d
  |none=>HL a d)
noncomputable def leave(i:TT)(f:Func)(dep:Y)(d:Ms)(k:Y)(t:Tr)(a:Ms)(l:Y)(e:V Y):Cr:=match DZ i dep f.ntmps t a f.results.toList with
 |some r=>(match a with
  |own::rest=>(match xc 1000 own (r.ak++HL rest e) []with
   |g=>(match Be k d r.ak&&Mt k d g&&D0 k d rest e&&Si k own with
    |true=> .ok r (yW g rest) l e
    |false=> .no))
  |[]=> .no)
 |none=> .no
noncomputable def HM(a:Ms):Y->V Y->V Y->V Y
 |0,_,acc=>acc
 |_+1,[],acc=>acc
 |f+1,id::todo,acc=>match acc.any (gG id)with
  |true=>HM a f todo acc
  |false=>(match bu id a with
   |some d=>HM a f (d.ak++todo)<|id::acc
   |none=>HM a f todo acc)
noncomputable def lkS(d:V Y)(e:Ms)(a:Y):ar aE:=match d.any (gG a)with
 |true=>bu a e
 |false=>none
noncomputable def vf:V Y->Ms->Ms
 |[],ms=>ms
 |id::a,ms=>(match bu id ms with
  |some (.box d _ cs)=>vf a<|pH id (.fz d cs) ms
  |_=>vf a ms)
abbrev xd:=Y->Y->Y->Code->Tr->Ms->Y->V Y->Rc
noncomputable def sa(P:bS)(m:TT)(i:jA->V AV->Ms->ar (V AV×AV))(body:xd):lS:=λf vs a k=>
 match i f vs a with
 |some (g,r)=>(match HM a 200 (cF vs) []with
  |D=>(match qO (lkS D a) vs g&&(cF g).isEmpty&&D0 k a (vf D a) D with
   |true=> .ok r (vf D a) k D
   |false=> .no))
 |none=>(match P.funcs[f]? with
  |some fn=>(match fn.body with
   |some c=>(match fn.name != "runtime.NumGoroutine" &&dT (Z vs) fn.ntmps&&dT fn.ntmps 4096 with
    |true=>(match body (eC fn.ntmps) fn.ntmps k c (mC (eC fn.ntmps) vs 0 .e) ([]::a) k []with
     | .dc t d l wl=>leave m fn (eC fn.ntmps) a k t d l wl
     | .ret t d l wl=>leave m fn (eC fn.ntmps) a k t d l wl
     |_=> .no)
    |false=> .no)
   |none=> .no)
  |none=> .no)
noncomputable def als(e:xd)(dep n f:Y)(x g:Code)(t:Tr)(i:Ms)(k:Y)(l:V Y):Rc:=match e dep n f x t i k l with
 | .dc t1 a m d=>e dep n f g t1 a m d
 |r=>r
noncomputable def alu(a:xd)(dep n d:Y)(g:dS)(x i:Code)(t:Tr)(e:Ms)(k:Y)(f:V Y):Rc:=match il dep n g with
 |some p=>(match jz t p with
  |some (.c<|.B b)=>(match b with
   |true=>a dep n d x t e k f
   |false=>a dep n d i t e k f)
  |_=> .no)
 |none=> .no
noncomputable def alv(g:xd)(dep n i:Y)(l:Y)(x:Code)(t:Tr)(m:Ms)(k:Y)(o:V Y):Rc:=match g dep n i x t m k o with
 | .fW a t1 d f e=>(match gG a l with
  |true=> .dc t1 d f e
  |false=> .fW a t1 d f e)
 |r=>r
noncomputable def alw(e:xd)(dep n f:Y)(x:Code)(t:Tr)(g:Ms)(k:Y)(i:V Y):Rc:=match e dep n f x t g k i with
 | .dc t1 a l d=>e dep n f (.loop x) t1 a l d
 |r=>r
def rT:Rs->Rc
 | .ok t1 a e d _=> .dc t1 a e d
 | .no=> .no
def rD(ps:V (Y×Y)):Rd->Rc
 | .ok t1 a e d fs=>(match DR fs.reverse ps with
  |true=> .dc t1 a e d
  |false=> .no)
 | .no=> .no
noncomputable def alx(a:lS)(f:TT)(dep n g:Y)(e:V aX)(d:Bool)(t:Tr)(i:Ms)(k:Y)(l:V Y):Rc:=match Mp dep n e d with
 |some (gs,none)=>rT<|u5 a f n g gs t i k l
 |some (gs,ad ps)=>rD ps<|xa a f n g gs t i k l []
 |none=> .no
noncomputable def aly(P:bS)(g:TT)(e:jA->V AV->Ms->ar (V AV×AV))(a:xd)(dep n d:Y):Code->Tr->Ms->Y->V Y->Rc
 | .skip=> .dc
 | .exit id=> .fW id
 | .ret=> .ret
 | .seq x f=>als a dep n d x f
 | .cond i x f=>alu a dep n d i x f
 | .block id x=>alv a dep n d id x
 | .loop x=>alw a dep n d x
 | .region _ ops draw=>alx (sa P g e a) g dep n d ops.toList draw
 |_=>λ_ _ _ _=> .no
noncomputable def im(P:bS)(e:TT)(d:jA->V AV->Ms->ar (V AV×AV))(a:Y):xd:=Mj (motive:=λ_=>xd)
 (λ_ _ _ _ _ _ _ _=> .no) (λ_ f=>aly P e d f) a
def qP:Ft->Y->Prop
 | .n,_=>False
 | .m rd _,id=>id∈rd
 | .c k _ _,id=>id<k
def mD:Ft->Y->Prop
 | .n,_=>False
 | .m _ wr,id=>id∈wr
 | .c k a wl,id=>(id∈wl/\id<k)\/(k<=id/\id<a)
def yX(d e:Ks)(f:Ft):Prop:=(∀a∈d.1,match a with| .s t=>Key.s t∈e.1| .m id=>qP f id)/\∀a∈d.2,match a with| .s t=>Key.s t∈e.2| .m id=>mD f id
def eP(d:Ms)(k:Y):Prop:=∀a b,bu a d=ad b->a<k/\∀j∈b.ak,j<k
def dB(dep n:Y)(t:Tr)(k:Y):Prop:=∀j v,j<n->iZ (cP dep j) t=ad v->∀a∈v.ak,a<k
def lu(d a:Ms):Prop:=∀i j b,1<=i->bu j (az i a)=ad b->∃e,bu j (az i d)=ad e
def lu.refl ms:lu ms ms:=λ_ _ b _ h=>⟨b,h⟩
def lu.trans{a d e}(k:lu a d)(g:lu d e):lu a e:=λi j x f l=>by let ⟨y,m⟩:=g i j x f l;exact k i j y f m
def Sj id d a:lu a (pH id d a):=by
 intro i j x _ hx;have f:∀(a:Ms)(i:Y)(x:aE),bu j (az i<|pH id d a)=ad x->∃y,bu j (az i a)=ad y:=by
  intro a;induction a with
  |nil=>intro i x hx;exact⟨x,hx⟩
  |cons m r g=>
   intro i x hx
   have k:pH id d (m::r)=match lR id m with|some _=>Hy id d m::r|none=>m::pH id d r:=rfl
   cases i with
   |zero=>
    simp only[oQ]at hx⊢
    rw[DO]at hx
    split at hx
    .rename_i y l;split at hx
     .rename_i e;subst e;exact⟨y,l⟩
     .exact⟨x,hx⟩
    .exact⟨x,hx⟩
   |succ i=>
    rw[k]at hx
    split at hx
    .exact⟨x,CB⟩
    .exact g i x CB
 exact f a i x hx
def alz id a:lu a (tE id a):=by
 intro i j x _ d;have e:∀(a:Ms)(i:Y),az i (tE id a)=tE id (az i a):=by
  intro a;induction a with
  |nil=>intro i;simp[tE]
  |cons m r f=>intro i;cases i with
   |zero=>rfl
   |succ i=>simpa[tE]using f i
 rw[e,A8]at d;split at d
 .cases d
 .exact⟨x,d⟩
def alA k d ms:lu ms (yT k d ms):=by
 intro i j x f a;obtain⟨i,rfl⟩:∃e,i=e+1:=⟨i-1,O⟩;cases ms with
 |nil=>exact⟨x,by simpa[yT]using a⟩
 |cons m r=>exact⟨x,by simpa[yT]using a⟩
structure vg(P:bS)(g:lS):Prop where
 ok:∀{f vs ms k r d e wl},g f vs ms k= .ok r d e wl->eP ms k->(∀a∈cF vs,a<k)->
  CX P f vs ms.flatten k r d.flatten e/\(∀a∈r.ak,k<=a\/∃b,bu a ms=ad b)/\(∀a b,bu a d=ad b->bu a ms=ad b\/∀i∈b.ak,k<=i\/∃b,bu i ms=ad b)/\
   (∀a,a<k->a∉wl->bu a d=bu a ms)/\(∀a b,bu a d=ad b->k<=a\/∃l,bu a ms=ad l)/\eP d e/\(∀a∈r.ak,a<e)/\lu ms d
section
variable{P:bS}{tt:TT}{dep n:Y}{t:Tr}{ms:Ms}{k:Y}
def eP.le{a}(d:eP ms k)(e:k<=a):eP ms a:=λf b g=>⟨hP (d f b g).1 e,λj i=>hP ((d f b g).2 j i) e⟩
def dB.le{d}(e:dB dep n t k)(f:k<=d):dB dep n t d:=λj v g i l a=>hP (e j v g i l a) f
def dB.set(f:dB dep n t k)(o:n<=4^dep){d}(p:d<n){v}(g:∀i∈v.ak,i<k):dB dep n (jk (cP dep d) v t) k:=by
 intro j u l a;by_cases e:d=j
 .subst e;rw[Hx]at a;cases a;exact g
 .rw[DI _ _ _ _ DK (λm=>e<|A7 dep O O m)]at a;exact f j u l a
def dB.del(f:dB dep n t k)(l:n<=4^dep){d}(m:d<n):dB dep n (DH (cP dep d) t) k:=by
 intro j u g a;by_cases e:d=j
 .subst e;rw[R1]at a;cases a
 .rw[R2 _ _ _ DK (λi=>e<|A7 dep O O i)]at a;exact f j u g a
def yY{a d}(e:dj a d=ae):a<d:=by simpa[rJ]using e
def kr{m:Mem}{x}{p:Pd}(a:il dep n x=ad p){v}(d:jz t p=ad v):(a7 dep n t m).ev x=ad v:=by
 cases x with
 |tmp j=>
  simp only[il]at a
  split at a
  .rename_i e;cases a;simp only[St.ev,a7,r8,ao<|yY e];exact d
  .cases a
 |const u=>simp only[il,au]at a;subst a;exact d
 |func f=>simp only[il,au]at a;subst a;exact d
 |global g=>simp[il]at a
def Mu{m:Mem}:∀{xs:V dS}{ps:V Pd},w8 dep n xs=ad ps->∀{vs:V AV},w7 t ps=ad vs->jv (a7 dep n t m) xs=ad vs
 |[],ps,a,vs,he=>by simp only[w8,au]at a;subst a;exact he
 |x::xs,ps,a,vs,he=>by
  simp only[w8]at a;split at a
  .rename_i p f g i;cases a;have e:w7 t (p::f)=match jz t p with
    |some v=>(match w7 t f with|some vs=>ad (v::vs)|none=>none)
    |none=>none:=rfl
   rw[e]at he;split at he
   .rename_i v l;split at he
    .rename_i o d;cases he;simp only[jv,kr g l,Mu i d]
    .cases he
   .cases he
  .cases a
def alB{m:Mem}(l:dB dep n t k){x}{p:Pd}(a:il dep n x=ad p){v}(e:jz t p=ad v):∀i∈v.ak,i<k:=by
 cases x with
 |tmp j=>
  simp only[il]at a
  split at a
  .rename_i o;cases a;exact l j v (yY o) e
  .cases a
 |const u=>
  simp only[il,au]at a;subst a
  have:BN u=v:=by simpa[jz]using e
  subst this
  intro i d
  cases u<;>simp[BN,AV.ak,C.ak]at d
 |func f=>
  simp only[il,au]at a;subst a
  have:AV.c (.V<|.func (.func f) #[] #[])=v:=by simpa[jz]using e
  subst this
  intro i d
  simp[AV.ak,C.ak]at d
 |global g=>simp[il]at a
def Mv(i:dB dep n t k):∀{xs:V dS}{ps:V Pd},w8 dep n xs=ad ps->∀{vs:V AV},w7 t ps=ad vs->∀f∈cF vs,f<k
 |[],ps,d,vs,he=>by
  simp only[w8,au]at d;subst d;have:vs=[]:=by simpa[w7]using he.symm
  subst this;simp[cF]
 |x::xs,ps,d,vs,he=>by
  simp only[w8]at d;split at d
  .rename_i p l o q;cases d;have e:w7 t (p::l)=match jz t p with
    |some v=>(match w7 t l with|some vs=>ad (v::vs)|none=>none)
    |none=>none:=rfl
   rw[e]at he;split at he
   .rename_i v s;split at he
    .rename_i u g;cases he;intro f a;simp only[cF,aY]at a;rcases a with a|a
     .exact alB (m:=[]) i o s f a
     .exact Mv i q g f a
    .cases he
   .cases he
  .cases d
def Bf(e:b8 P tt=ae){o:aX}(f:o.guard=none){d:Y}(g:o.dst=ad d)(a:d<n)(l:n<=4^dep){m:Mem}{v}{p}(q:sr tt (a7 dep n t m) o.op=ad (v,p))(u:p.h):
  fL P n #[o] 0 (a7 dep n t m) (a7 dep n (jk (cP dep d) v t) m) k (k+1) (bD o.op.operands.toList,[.s d]):=
 fL.lF (IP e (ops:= #[o]) (i:=0) J f g a q u k) (pZ _ _) (DL dep n t m d v l a) Aa lG
def aaN(e:b8 P tt=ae){o:aX}(f:o.guard=none){d:Y}(g:o.dst=ad d)(a:d<n)(l:n<=4^dep){m:Mem}{v}{p}(q:Cu tt (a7 dep n t m) o.op=ad (v,p))(u:p.h):
  fL P n #[o] 0 (a7 dep n t m) (a7 dep n (jk (cP dep d) v t) m) k (k+1) (bD o.op.operands.toList,[.s d]):=
 fL.lF (Vy e (ops:= #[o]) (i:=0) J f g a q u k) (pZ _ _) (DL dep n t m d v l a) Aa lG
def alC(e:b8 P tt=ae){o:aX}(f:o.guard=none){d:Y}(g:o.dst=ad d)(a:d<n)(l:n<=4^dep){m:Mem}{v}{p}(q:uu tt (a7 dep n t m) o.op=ad (v,p))(u:p.h):
  fL P n #[o] 0 (a7 dep n t m) (a7 dep n (jk (cP dep d) v t) m) k (k+1) (bD o.op.operands.toList,[.s d]):=
 fL.lF (Pk e (ops:= #[o]) (i:=0) J f g a q u k) (pZ _ _) (DL dep n t m d v l a) Aa lG
def alD(q:b8 P tt=ae){o:aX}(hg:o.guard=none){d:Y}(hd:o.dst=ad d)(l:d<n)(hn:n<=4^dep){B}{x}(F:o.op= .load B x){v u}{g}(hx:(a7 dep n t ms.flatten).ev x=ad v)(a:R' tt ms B v=ad (u,g)):
  fL P n #[o] 0 (a7 dep n t ms.flatten) (a7 dep n (jk (cP dep d) u t) ms.flatten) k (k+1) (bD [x]++cX g,[.s d]):=by
 have b:EN tt (a7 dep n t ms.flatten) B v=ad (u,.t,g):=by
  unfold R' at a;unfold EN;split at a
  .cases a
  .rename_i sz j C H;have f:sz≠0:=C;simp only[H];split at a
   .rename_i K L;have e:S K (a7 dep n t ms.flatten).mem=bu K ms:=ja K ms;simp only[e];split at a
    .rename_i E r c Q;simp only[Q];split at a
     .rename_i y m;cases a;simp only[R9 m (λe=>absurd e f)]
     .cases a
    .rename_i E c Q;simp only[Q];split at a
     .rename_i y m;cases a;simp only[R9 m (λe=>absurd e f)]
     .cases a
    .cases a
   .rename_i T e L;split at a
    .rename_i y m;cases a;simp only[R9 m (λe=>absurd e f)]
    .cases a
   .cases a
  .cases a
 refine fL.lF (US q (ops:= #[o]) (i:=0) J hg hd l F hx b A k) ?_ (DL dep n t ms.flatten d u hn l) ?_ lG
 .intro W U;rcases aY.1 U with h|h
  .exact dV _ _ W h
  .exact jV _ _ W h
 .intro p X;simp only[dq,fo,aY]at X⊢;rcases X with h|h
  .exact .inl<|ew (a7 dep n t ms.flatten) [x] p I4
  .exact .inr<|jW _ _ p h
def alE(F:b8 P tt=ae){o}(hg:o.guard=none)(hd:o.dst=none){H:TypeId}{x L}(Q:o.op= .store H x L){v U}{f}{s}{p}(W:(a7 dep n t ms.flatten).ev x=ad v)(hy:(a7 dep n t ms.flatten).ev L=ad U)(a:Sa tt ms H v U=ad (f,s,p)):
  fL P n #[o] 0 (a7 dep n t ms.flatten) (a7 dep n t (pH f s ms).flatten) k (k+1) (bD [x,L]++cX [f],[.m f])/\(∃q,bu f ms=ad q/\∀d∈s.ak,d∈q.ak\/d∈bP p):=by
 have C:ER tt (a7 dep n t ms.flatten) H v U=ad (f,s)/\∃q,bu f ms=ad q/\∀d∈s.ak,d∈q.ak\/d∈bP p:=by
  unfold Sa at a;unfold ER;split at a
  .rename_i sz M g u A K D;simp only[K,D];have e:S g (a7 dep n t ms.flatten).mem=bu g ms:=ja g ms;simp only[e];unfold aak at a;split at a
   .rename_i E N z G;split at a
    .rename_i l;simp only[cw]at l;split at a
     .rename_i x W;cases a;obtain⟨R,rfl⟩:=aai p u z x W;have B:Z p=sz:=kI l.1;simp only[G];rw[ao ⟨B,O,aaj l.2⟩];exact⟨J,_,J,λd I=>ES z p u d I⟩
     .cases a
    .cases a
   .cases a
  .cases a
 refine⟨?_,C.2⟩
 let ⟨C,q,X,_⟩:=C
 refine fL.lF (UX F (ops:= #[o]) (i:=0) J hg hd Q W hy C k) ?_ ?_ ?_ lG
 .intro c r;rcases aY.1 r with h|h
  .rcases aY.1 h with h|h
   .exact dV _ _ c h
   .exact dV _ _ c h
  .exact jV _ _ c h
 .refine Z3 dep n t ms.flatten _ _ (λd=>?_)<|λd=>xH;rw[ja,DO,X];simp only[bq,aC,Key.m.injEq];by_cases e:f=d
  .simp[e]
  .simp[e,a7,St.kn,ja]
 .exact z7
end
def yZ:∀{l:V dS}{a:Key},a∈bD l->∃g,a= .s g
 |[],a,d=>by simp[bD]at d
 | .tmp g::f,a,d=>by simp only[bD,bX]at d;exact d.elim (λe=>⟨g,e⟩) yZ
 | .const _::f,a,d=>yZ (l:=f) (by simpa[bD]using d)
 | .func _::f,a,d=>yZ (l:=f) (by simpa[bD]using d)
 | .global _::f,a,d=>yZ (l:=f) (by simpa[bD]using d)
def D1{d:Y}:∀{l:V dS},d∈slotsOf l↔Key.s d∈bD l
 |[]=>by simp[slotsOf,bD]
 | .tmp i::a=>by simp[slotsOf,bD,D1 (l:=a)]
 | .const _::a=>by simp[slotsOf,bD,D1 (l:=a)]
 | .func _::a=>by simp[slotsOf,bD,D1 (l:=a)]
 | .global _::a=>by simp[slotsOf,bD,D1 (l:=a)]
section
variable{P:bS}{tt:TT}{dep n:Y}{t:Tr}{ms:Ms}{k:Y}
def aaO:∀{l:V Y}{d:V (Y×V D4)},DS dep n l=ad d->∀x∈d,x.2=cP dep x.1/\x.1<n/\x.1∈l
 |[],d,a,x,hx=>by simp only[DS,au]at a;subst a;cases hx
 |m::o,d,a,x,hx=>by
  simp only[DS]at a;split at a
  .rename_i l e f;cases a;rcases bX.1 hx with rfl|hx
   .exact⟨J,yY e,ax⟩
   .let ⟨g,h2,i⟩:=aaO f x hx;exact⟨g,h2,by simp[i]⟩
  .cases a
def aaP:∀{sl:V (Y×V D4)},(∀x∈sl,x.2=cP dep x.1/\x.1<n)->∀{j:Y}{v:AV},S j (nh sl t)=ad v->j<n/\iZ (cP dep j) t=ad v
 |[],_,j,v,a=>by simp[nh,S]at a
 |x::d,f,j,v,a=>by
  have e:nh (x::d) t=match iZ x.2 t with|some v=>(x.1,v)::nh d t|none=>nh d t:=rfl
  rw[e]at a;let ⟨i,h2⟩:=f x ax;have g:=aaP (sl:=d) (λy hy=>f y tq) (j:=j) (v:=v);split at a
  .rename_i u l;simp only[S]at a;split at a
   .rename_i m;cases a;subst m;exact⟨h2,by rw[<-i];exact l⟩
   .exact g a
  .exact g a
def Sk:∀{g:V Y}{f:Y}{d:aE},S f (r9 g ms)=ad d->bu f ms=ad d
 |[],f,d,a=>by simp[r9,S]at a
 |i::l,f,d,a=>by
  have e:r9 (i::l) ms=match bu i ms with|some d=>(i,d)::r9 l ms|none=>r9 l ms:=rfl
  rw[e]at a;split at a
  .rename_i u m;simp only[S]at a;split at a
   .rename_i o;cases a;subst o;exact m
   .exact Sk a
  .exact Sk a
def Bg{d:Y}:∀{l:V Key},d∈mK l↔Key.m d∈l
 |[]=>by simp[mK]
 | .m e::a=>by simp[mK,Bg (l:=a)]
 | .s e::a=>by simp[mK,Bg (l:=a)]
def Sl:∀{l:V Key},wS none l=ae->∀a,Key.s a∉l
 |[],_,a=>by simp
 | .m i::e,d,a=>by simp only[wS]at d;simpa using Sl d a
 | .s i::e,d,a=>by simp[wS]at d
def Mw{d:Y}:∀{l:V Key},wS (ad d) l=ae->∀a,Key.s a∈l->a=d
 |[],_,a,hj=>by simp at hj
 | .m i::g,f,a,hj=>by simp only[wS]at f;exact Mw f a nt
 | .s i::g,f,a,hj=>by
  simp only[wS]at f;split at f
  .rename_i o;rcases bX.1 hj with e|hj
   .cases e;exact(kI o).symm
   .exact Mw f a hj
  .cases f
def Mx{a:Y}:∀{l:V Y},Ba a l=ae↔a∈l
 |[]=>by simp[Ba]
 |x::g=>by
  simp only[Ba];cases f:gG x a with
  |true=>simp[(kI f).symm]
  |false=>
   have d:a≠x:=by intro e;subst e;simp[Hz]at f
   simp[Mx (l:=g),d]
def My{f:V Y}:∀{l:V Key},rS f l=ae->∀a,Key.s a∈l->a∈f
 |[],_,a,hj=>by simp at hj
 | .m i::g,d,a,hj=>by simp only[rS]at d;exact My d a nt
 | .s i::g,d,a,hj=>by
  simp only[rS]at d;split at d
  .rename_i o;rcases bX.1 hj with e|hj
   .cases e;exact Mx.1 o
   .exact My d a hj
  .cases d
def Sn{f g}{i}{d}(m:d<f)(a:d∉A' f g i):d∉i/\d≠g:=by
 unfold A' at a;split at a
 .simp only[bX,not_or]at a;exact⟨a.2,a.1⟩
 .rename_i l;refine⟨a,?_⟩;intro e;subst e;have:dj d f=ae:=by simpa[rJ]using m
  rw[this]at l;cases l
structure alF(k i:Y)(l e:Mem)(f:V Y)(ms:Ms)(m:V Y)(d:Ms)(g:V Y):Prop where
 out:∀a,a∉f->bu a d=bu a ms
 Mz:∀a,a∈f->bu a d=S a e
 gone:∀a,a∈f->S a e=none->∃b,S a l=ad b
 log:∀a,a<i->a∉g->a∉m/\bu a d=bu a ms
 Bh:∀a b,a<i->bu a d=ad b->∃o,bu a ms=ad o
 wf:eP ms (k+1)->eP d (k+1)
 tl:lu ms d
def MA{x:Y}(L:x<=k){Q g:Mem}:∀{U:V Y}{ms:Ms}{B:V Y}{p:Ms}{q:V Y},Bb k x Q g U ms B=ad (p,q)->alF k x Q g U ms B p q
 |[],ms,B,p,q,h=>by
  have:ms=p/\B=q:=by simpa[Bb]using h
  obtain⟨rfl,rfl⟩:=this;exact⟨λ_ _=>rfl,λ_ h=>eV,λ_ h=>eV,λ_ _ h=>⟨h,J⟩,λ_ b _ h=>⟨b,h⟩,λh=>h,lu.refl _⟩
 |i::r,ms,B,p,q,h=>by
  have e:Bb k x Q g (i::r) ms B=match lR i g with
   |some b=>(match HD (k+1) b with
    |true=>(match gG i k with
     |true=>Bb k x Q g r (yT k b ms) B
     |false=>(match bu i ms with
      |some _=>Bb k x Q g r (pH i b ms)<|A' x i B
      |none=>none))
    |false=>none)
   |none=>(match lR i Q with
    |some _=>Bb k x Q g r (tE i ms)<|A' x i B
    |none=>none):=rfl
  rw[e]at h;simp only[w6]at h;split at h
  .rename_i b K;split at h
   .rename_i H;split at h
    .rename_i C;have C:i=k:=kI C;have f:=MA L h;refine⟨?_,?_,?_,?_,?_,?_,(alA k b ms).trans f.tl⟩
     .intro j a;simp only[bX,not_or]at a;rw[f.out j a.2,HB,w<|by rw[<-C];exact λe=>a.1 e.symm]
     .intro j a;by_cases s:j∈r
      .exact f.Mz j s
      .have:j=i:=by simpa[s]using a
       subst this;rw[f.out j s,HB,ao C.symm,K]
     .intro j a F;rcases bX.1 a with rfl|a
      .rw[K]at F;cases F
      .exact f.gone j a F
     .intro j a o;let ⟨m,h2⟩:=f.log j a o;exact⟨m,by rw[h2,HB,w O]⟩
     .intro j W a u;let ⟨X,G⟩:=f.Bh j W a u;rw[HB,w O]at G;exact⟨X,G⟩
     .intro o;refine f.wf ?_;intro c y d;rw[HB]at d;split at d
      .rename_i z;cases d;exact⟨O,aam H⟩
      .exact o c y d
    .split at h
     .rename_i X v;have f:=MA L h;have l:∀j,bu j (pH i b ms)=if i=j then ad b else bu j ms:=by intro j;rw[DO,v]
      refine⟨?_,?_,?_,?_,?_,?_,(Sj i b ms).trans f.tl⟩
      .intro j a;simp only[bX,not_or]at a;rw[f.out j a.2,l,w<|λe=>a.1 e.symm]
      .intro j a;by_cases s:j∈r
       .exact f.Mz j s
       .have:j=i:=by simpa[s]using a
        subst this;rw[f.out j s,l,ao J,K]
      .intro j a F;rcases bX.1 a with rfl|a
       .rw[K]at F;cases F
       .exact f.gone j a F
      .intro j a o;let ⟨m,h2⟩:=f.log j a o;let ⟨A,D⟩:=Sn a m;exact⟨A,by rw[h2,l,w<|λe=>D e.symm]⟩
      .intro j W a u;let ⟨E,m⟩:=f.Bh j W a u;rw[l]at m;split at m
       .rename_i z;subst z;exact⟨X,v⟩
       .exact⟨E,m⟩
      .intro o;refine f.wf ?_;intro c y d;rw[l]at d;split at d
       .rename_i z;cases d;subst z;exact⟨(o _ _ v).1,aam H⟩
       .exact o c y d
     .cases h
   .cases h
  .rename_i K;split at h
   .rename_i X v;have f:=MA L h;refine⟨?_,?_,?_,?_,?_,?_,(alz i ms).trans f.tl⟩
    .intro j a;simp only[bX,not_or]at a;rw[f.out j a.2,A8,w<|λe=>a.1 e.symm]
    .intro j a;by_cases s:j∈r
     .exact f.Mz j s
     .have:j=i:=by simpa[s]using a
      subst this;rw[f.out j s,A8,ao J,K]
    .intro j a F;rcases bX.1 a with rfl|a
     .exact⟨X,v⟩
     .exact f.gone j a F
    .intro j a o;let ⟨m,h2⟩:=f.log j a o;let ⟨A,D⟩:=Sn a m;exact⟨A,by rw[h2,A8,w<|λe=>D e.symm]⟩
    .intro j W a u;let ⟨E,m⟩:=f.Bh j W a u;rw[A8]at m;split at m
     .cases m
     .exact⟨E,m⟩
    .intro o;refine f.wf ?_;intro c y d;rw[A8]at d;split at d
     .cases d
     .exact o c y d
   .cases h
structure Left(g:Y)(dep n:Y)(t:Tr)(ms:Ms)(k:Y)(i:V Y)(l:Tr)(a:Ms)(e:Y)(f:V Y):Prop where
 le:k<=e
 dB:dB dep n l e
 eP:eP a e
 log:∀d,d<g->d∉f->d∉i/\bu d a=bu d ms
 Bh:∀d b,d<g->bu d a=ad b->∃m,bu d ms=ad m
 tl:lu ms a
def tI{d}{v}{i}{l}{f:Ft}{m}{a}{o}{e}{p:Ft}(g:tF d v t ms i l f= .ok m a o e p):m=jk d v t/\a=ms/\o=i/\e=l/\p=f/\∀q∈v.ak,q<i:=by
 unfold tF at g;split at g
 .rename_i s;simp only[Rs.ok.injEq]at g;let ⟨u,h2,x,B,C⟩:=g;exact⟨u.symm,h2.symm,x.symm,B.symm,C.symm,ali s⟩
 .cases g
def alG(bW:b8 P tt=ae){ke}(oT:ke<=k)(hn:n<=4^dep){o:aX}(hg:o.guard=none){d:ar (Y×V D4)}(hd:o.dst=d.map (·.1))(DG:∀x,d=ad x->x.2=cP dep x.1/\x.1<n){W}(pq:DS dep n (slotsOf o.op.operands.toList)=ad W)
  (lT:dB dep n t k) (jl:eP ms k) {wl}{t'}{vj}{k'}{ku}{f:Ft} (g:Sb tt n ke d W o.op t ms k wl (nh W t) (r9 (yU<|nh W t) ms)= .ok t' vj k' ku f):
  ∃ks,fL P n #[o] 0 (a7 dep n t ms.flatten) (a7 dep n t' vj.flatten) k k' ks/\(∀l,Key.s l∈ks.1->l∈slotsOf o.op.operands.toList)/\(∀l,Key.s l∈ks.2->o.dst=ad l)/\(∀a,Key.m a∈ks.1->qP f a)/\(∀a,Key.m a∈ks.2->mD f a)/\Left ke dep n t ms k wl t' vj k' ku:=by
 have U:=aaO pq
 have C:∀q x,St.kn ⟨nh W t,r9 (yU<|nh W t) ms,0,[]⟩ q=ad x->(a7 dep n t ms.flatten).kn q=ad x:=by
  intro q x E;cases q with
  |s l=>
   simp only[St.kn,cu]at E
   obtain⟨v,hv,rfl⟩:=E
   let ⟨c,G⟩:=aaP (dep:=dep) (n:=n) (λy hy=>⟨(U y hy).1,(U y hy).2.1⟩) hv
   simp[a7,St.kn,r8,c,G]
  |m a=>
   simp only[St.kn,cu]at E
   obtain⟨v,hv,rfl⟩:=E
   simp[a7,St.kn,ja,Sk hv]
 unfold Sb at g
 split at g
 .rename_i R k1 ks hs;split at g
  .rename_i I;simp only[cw]at I;let ⟨⟨T,K⟩,Al⟩:=I;have T:k1=k+1:=kI T;subst T;split at g
   .rename_i So wl2 ha;have Z:=MA oT ha;rw[<-hd]at hs K;let ⟨rd,wr,A,fc,q',hle,uy,Sp⟩:=ahg bW (λ_ _ _ _ _ _ _ g=>by simp[aan]at g) (o:=o) hg hs;have L:∀q,q∉ks.2->aC wr q=none:=by
     intro q hk;cases X:aC wr q with
     |none=>rfl
     |some x=>exact absurd (Sp q<|zu<|by simp[nN,X]) hk
    have M:∀a,(S a So.flatten).map Info.b=bq (a7 dep n t ms.flatten).kn wr (.m a):=by
     intro a;rw[ja];by_cases D:a∈mK ks.2
     .rw[Z.Mz a D];have c:(S a R.mem).map Info.b=bq (St.kn ⟨nh W t,r9 (yU<|nh W t) ms,0,[]⟩) wr (.m a):=by rw[<-q'];rfl
      rw[c];simp only[bq];cases X:aC wr (.m a)with
      |some x=>rfl
      |none=>
       simp only
       have G:(S a R.mem).map Info.b=(S a<|r9 (yU<|nh W t) ms).map Info.b:=by rw[c];simp only[bq,X];rfl
       cases hm:S a R.mem with
       |none=>
        let ⟨b,hb⟩:=Z.gone a D hm
        rw[hm,hb]at G
        simp at G
       |some b=>
        rw[hm]at G
        simp only[uh]at G
        rw[show St.kn ⟨nh W t,r9 (yU<|nh W t) ms,0,[]⟩ (.m a)=ad (Info.b b)from G.symm]
        exact(C (.m a) (.b b) G.symm).symm
     .rw[Z.out a D];simp only[bq,L (.m a)<|λhc=>D<|Bg.2 hc];simp[a7,St.kn,ja]
    have hL:∀{t'':Tr},dB dep n t'' (k+1)->Left ke dep n t ms k wl t'' So (k+1) wl2:=λhw=>⟨O,hw,Z.wf<|jl.le O,Z.log,Z.Bh,Z.tl⟩
    cases d with
    |none=>
     simp only[Rs.ok.injEq]at g
     obtain⟨rfl,rfl,rfl,rfl,rfl⟩:=g
     have Q:o.dst=none:=hd
     rw[Q]at K
     refine⟨ks,⟨rd,wr,A,λkx r=>C _ _<|fc kx r,?_,hle,uy,Sp⟩,?_,?_,?_,?_,hL<|lT.le O⟩
     .exact Z3 dep n t ms.flatten _ wr M<|λl=>L _<|Sl K l
     .intro l B;let ⟨x,E,e⟩:=je.1<|My Al l B;rw[<-e];exact(U x E).2.2
     .intro l B;exact absurd B<|Sl K l
     .intro a u;exact Bg.2 u
     .intro a u;exact Bg.2 u
    |some x=>
     let ⟨N,dp⟩:=x
     let ⟨F,H⟩:=DG (N,dp) J
     simp only at F H
     have Q:o.dst=ad N:=hd
     rw[Q]at K
     simp only at g
     split at g
     .rename_i v hv;obtain⟨rfl,rfl,rfl,rfl,rfl,z⟩:=tI g;subst F;refine⟨ks,⟨rd,wr,A,λkx r=>C _ _<|fc kx r,?_,hle,uy,Sp⟩,?_,?_,?_,?_,hL<|(lT.le O).set hn H z⟩
      .funext q;cases q with
       |m a=>exact M a
       |s l=>
        rw[DJ]
        simp only
        by_cases e:l=N
        .subst e;rw[ao H,Hx];have c:bq (St.kn ⟨nh W t,r9 (yU<|nh W t) ms,0,[]⟩) wr (.s l)=ad (.v v):=by rw[<-q'];simp[St.kn,hv]
         simp only[bq]at c⊢;cases X:aC wr (.s l)with
         |some y=>rw[X]at c;simp only at c⊢;rw[c];rfl
         |none=>rw[X]at c;simp only at c⊢;rw[C _ _ c];rfl
        .have jY:aC wr (.s l)=none:=L _<|λhc=>e<|Mw K l hc;simp only[bq,jY,a7,St.kn,r8];by_cases B:l<n
         .rw[ao B,ao B,DI _ _ _ _ DK<|λe'=>e (A7 dep O O e').symm]
         .rw[w B,w B]
      .intro l B;let ⟨x,E,e⟩:=je.1<|My Al l B;rw[<-e];exact(U x E).2.2
      .intro l B;rw[Q,Mw K l B]
      .intro a u;exact Bg.2 u
      .intro a u;exact Bg.2 u
     .cases g
   .cases g
  .cases g
 .cases d with
  |none=>cases g
  |some x=>
   let ⟨N,dp⟩:=x
   let ⟨F,H⟩:=DG (N,dp) J
   simp only at F H
   subst F
   have Q:o.dst=ad N:=hd
   dsimp only at g
   unfold Mh at g
   split at g
   .rename_i v p he;split at g
    .rename_i yP;obtain⟨rfl,rfl,rfl,rfl,rfl,z⟩:=tI g;have A:=Pk (P:=P) bW (ops:= #[o]) (i:=0) J hg Q H he (DM yP) k;refine⟨(bD o.op.operands.toList,[.s N]),fL.lF A (λkx r=>C _ _<|pZ _ _ kx r) (DL dep n t _ N v hn H) Aa lG,?_,?_,?_,?_,⟨O,(lT.le O).set hn H z,jl.le O,λ_ _ g=>⟨g,J⟩,λ_ b _ g=>⟨b,g⟩,lu.refl _⟩⟩
     .intro l B;exact D1.2 B
     .intro l B;simp only[iU,Key.s.injEq]at B;rw[Q,B]
     .intro a u;let ⟨l,B⟩:=yZ u;cases B
     .intro a u;simp at u
    .cases g
   .cases g
end
section
variable{P:bS}{tt:TT}{dep n:Y}{t:Tr}{ms:Ms}{k:Y}
def aaR(g:Y->ar Info)(a:Y):∀l:V Y,aC (l.map λd=>(Key.m d,g d)) (.m a)=if a∈l then ad (g a)else none
 |[]=>rfl
 |i::l=>by
  simp only[gR,aC,Key.m.injEq,aaR g a l,bX];by_cases e:i=a
  .subst e;simp
  .simp[e,show a≠i from λf=>e f.symm]
def aaS(g:Y->ar Info)(a:Y):∀l:V Y,aC (l.map λd=>(Key.m d,g d)) (.s a)=none
 |[]=>rfl
 |i::l=>by simp only[gR,aC,reduceCtorEq,bL,aaS g a l]
def aaT:∀{l:V (Y×aE)}{d:Y}{f:aE},S d l=ad f->d∈l.map (·.1)
 |[],d,f,a=>by simp[S]at a
 | (g,x)::l,d,f,a=>by
  simp only[S]at a;split at a
  .rename_i e;simp[e]
  .exact jF _<|aaT a
def Sq:∀{l:V (Y×aE)}{d:Y},d∈l.map (·.1)->∃f,S d l=ad f
 |[],d,a=>by simp at a
 | (g,x)::l,d,a=>by
  simp only[S];split
  .exact⟨_,J⟩
  .rename_i e;rcases bX.1 a with a|a
   .exact absurd a.symm e
   .exact Sq a
def alI{oU:lS}(nX:vg P oU)(hn:n<=4^dep){o:aX}(hg:o.guard=none){d:Y}(hd:o.dst=ad d)(di:d<n){cf}{args}{k6}(bU:o.op= .call ⟨.value cf,args,k6⟩){f}{vs}{ids}
  (ht:uo (a7 dep n t ms.flatten) cf args.toList=ad (f,vs,ids)) (z3:∀q∈ids,q<k) (uv:∀q∈cF vs,q<k) (jl:eP ms k) {aV}{H}{k'}{L}(hc:oU f vs ms k= .ok aV H k' L):
  ∃ks,fL P n #[o] 0 (a7 dep n t ms.flatten) (a7 dep n (jk (cP dep d) aV t) H.flatten) k k' ks/\(∀p,Key.s p∈ks.1->Key.s p∈bD (cf::args.toList))/\(∀p,Key.s p∈ks.2->p=d)/\(∀q,Key.m q∈ks.1->q<k)/\(∀q,Key.m q∈ks.2->(q∈L/\q<k)\/(k<=q/\q<k')):=by
 let ⟨N,Sr,mc,hun,hold,alK,GG,_⟩:=nX.ok hc jl uv
 have C:∀q b,S q ms.flatten=ad b->q<k/\∀p∈b.ak,p<k:=λq b hb=>jl q b MB
 let c:St:=a7 dep n t ms.flatten
 let z:V (Key×ar Info):=(L.filter<|λq=>(S q ms.flatten).isSome).map<|λq=>(Key.m q,(S q H.flatten).map Info.b)
 let E:V (Key×ar Info):=(.s d,ad<|.v aV)::(z++jZ k H.flatten)
 let rd:=cC c cf++args.toList.flatMap (cC c)++ff c ids++ff c (ms.flatten.map (·.1))
 have Gb:∀p,aC E (.m p)=if p∈L/\(S p ms.flatten).isSome=ae then ad ((S p H.flatten).map Info.b)else if k<=p then(S p H.flatten).map (λb=>ad<|.b b)else none:=by
  intro p;simp only[E,z,aC,reduceCtorEq,bL,sT,aaR (λq=>(S q H.flatten).map Info.b) p,xV,nO];by_cases h:p∈L/\(S p ms.flatten).isSome=ae
  .simp[h]
  .rw[w h,w h]
 have R:∀p,aC E (.s p)=if d=p then ad (ad<|.v aV)else none:=by intro p;simp only[E,z,aC,sT,aaS (λq=>(S q H.flatten).map Info.b) p,xU,Key.s.injEq]
 have oa:∀p,p<k->p∉L->S p H.flatten=S p ms.flatten:=by intro p A T;rw[ja,ja];exact hun p A T
 refine⟨(dq rd,fD E),⟨rd,E,?_,?_,?_,N.le,λ_ h=>h,λ_ h=>h⟩,?_,?_,?_,?_⟩
 .intro F kC Q known σ g W a K zr aN fc hK;let ⟨us,hex,AE,VJ⟩:=VN aN bU ht N.call<|λG y=>fc G<|dY _ y;have vB:=vZ (st:=c) (ids:=ms.flatten.map (·.1)) (σ:=σ)<|λG y=>fc G<|fU _ y;have I:∀q b,S q ms.flatten=ad b->σ (.m q)=ad (.b b):=λq b hb=>vB q (aaT hb) b hb
  have vV:d<a.tmps.size:=l0;have Jk:=VI N uv C (λq U=>by
    rcases Sr q U with h|⟨b,hb⟩
    .exact .inl h
    .exact .inr ⟨b,by rw[ja];exact hb⟩) (λq b hb=>by
    rcases mc q b MB with h|h
    .exact .inl (by rw[ja];exact h)
    .refine .inr<|λp Z=>?_;rcases h p Z with h|⟨b',kZ⟩
     .exact .inl h
     .exact .inr ⟨b',by rw[ja];exact kZ⟩) aN zr AE VJ I vV
  have alL:bq σ ((.s d,ad<|.v aV)::(nW H.flatten ms.flatten++jZ k H.flatten))=bq σ E:=by
   funext B;cases B with
   |s p=>
    simp only[bq,R,aC,sT,Cz,xU,Key.s.injEq]
   |m p=>
    simp only[bq,Gb,aC,reduceCtorEq,bL,sT,Fu,xV]
    by_cases D:(S p ms.flatten).isSome=ae
    .by_cases M:p∈L
     .simp[D,M]
     .let ⟨b,hb⟩:=Fv.1 D;have hjk:=(C p b hb).1;simp only[D,b7,M,false_and,bL];rw[w O,oa p hjk M,hb,I p b hb];rfl
    .simp[D]
  rw[alL]at Jk;unfold wpOp;simp only[tW,l3,Region.wanted,hg,b7];refine .inl ?_;unfold Oper.wp;rw[hex];simp only[Oper.upon,hd];refine Jk.mono ?_;rintro e W' ⟨v,g',rfl,h'⟩;exact hK g' W' _ h'
 .intro G y;rcases aY.1 y with h|h
  .rcases aY.1 h with h|h
   .rcases aY.1 h with h|h
    .exact dV _ _ G h
    .let ⟨x,_,hx⟩:=iw.1 h;exact dV _ _ G hx
   .exact jV _ _ G h
  .exact jV _ _ G h
 .funext B;cases B with
  |s p=>
   simp only[bq,R,a7,St.kn,Z2 dep n t d p aV hn di]
   by_cases e:d=p<;>simp[e]
  |m p=>
   simp only[bq,Gb,a7,St.kn]
   by_cases h:p∈L/\(S p ms.flatten).isSome=ae
   .simp[h]
   .rw[w h];by_cases hk:k<=p
    .rw[ao hk];cases hx:S p H.flatten with
     |some b=>rfl
     |none=>
      have:S p ms.flatten=none:=by
       cases hy:S p ms.flatten with
       |none=>rfl
       |some b=>exact absurd (C p b hy).1 O
      simp[this]
    .rw[w hk];by_cases M:p∈L
     .have jY:S p ms.flatten=none:=by
       cases hy:S p ms.flatten with
       |none=>rfl
       |some b=>exact absurd ⟨M,tq⟩ h
      have:S p H.flatten=none:=by
       cases hy:S p H.flatten with
       |none=>rfl
       |some b=>
        rcases hold p b (by rw[<-ja];exact hy)with A|⟨b0,A⟩
        .omega
        .rw[<-ja,jY]at A;cases A
      rw[this,jY]
     .rw[oa p O M]
 .intro p Z;have vU:∀B∈dq rd,B∈bD (cf::args.toList)\/∃q,B=Key.m q:=by
   intro B hk;simp only[dq,rd,fo,aY]at hk;rcases hk with((h|h)|h)|h
   .exact .inl (ew c (cf::args.toList) B<|by simp only[kD,dq,fo,aY];exact .inl h)
   .exact .inl (ew c (cf::args.toList) B<|by simp only[kD,dq,fo,aY];exact .inr h)
   .have:=jW c ids B h;right;revert this;generalize ids=l;intro this;induction l with
    |nil=>simp[cX]at this
    |cons i l X=>simp only[cX,bX]at this;exact this.elim (λe=>⟨i,e⟩) X
   .have:=jW c _ B h;right;revert this;generalize ms.flatten.map (·.1)=l;intro this;induction l with
    |nil=>simp[cX]at this
    |cons i l X=>simp only[cX,bX]at this;exact this.elim (λe=>⟨i,e⟩) X
  rcases vU _ Z with h|⟨q,h⟩
  .exact h
  .cases h
 .intro p Z;apply Decidable.byContradiction;intro fe;have:=R p;rw[w (λe=>fe e.symm)]at this;have T:∀{u:V (Key×ar Info)}{B:Key},B∈fD u->aC u B≠none:=by
   intro u;induction u with
   |nil=>intro B h;simp[fD]at h
   |cons x u X=>
    intro B h
    simp only[aC]
    split
    .simp
    .rename_i fe;simp only[fD,gR,bX]at h;rcases h with h|h
     .exact absurd h.symm fe
     .exact X h
  exact T Z this
 .intro q U;simp only[dq,rd,fo,aY]at U;have nP:∀{l:V Y},Key.m q∈cX l->q∈l:=by
   intro l;induction l with
   |nil=>simp[cX]
   |cons i l X=>simp only[cX,bX,Key.m.injEq];exact λh=>h.elim .inl<|λh=> .inr<|X h
  have oR:∀{l:V dS},Key.m q∉bD l:=by
   intro l;induction l with
   |nil=>simp[bD]
   |cons x l X=>cases x<;>simp[bD,X]
  rcases U with((h|h)|h)|h
  .exact absurd (ew c [cf] (.m q) I4) oR
  .exact absurd (ew c args.toList (.m q) h) oR
  .exact z3 q<|nP<|jW c ids _ h
  .let ⟨b,hb⟩:=Sq<|nP<|jW c _ _ h;exact(C q b hb).1
 .intro q U;simp only[fD,E,z,gR,fo,bX,reduceCtorEq,false_or,aY,K1]at U;rcases U with h|h
  .let ⟨p,Z,e⟩:=je.1 h;simp only[Function.comp,Key.m.injEq]at e;subst e;let ⟨A,T⟩:=nO.1 Z;let ⟨b,hb⟩:=Fv.1 T;exact .inl ⟨A,(C _ b hb).1⟩
  .right;have M:∀{l:V (Y×aE)},Key.m q∈(jZ k l).map (·.1)->k<=q/\q∈l.map (·.1):=by
    intro l;induction l with
    |nil=>simp[jZ]
    |cons x l X=>
     let ⟨i,b⟩:=x
     simp only[jZ]
     split
     .rename_i z8;simp only[gR,bX,Key.m.injEq];rintro(rfl|h)
      .exact⟨z8,.inl J⟩
      .exact⟨(X h).1,.inr (X h).2⟩
     .intro h;exact⟨(X h).1,jF _ (X h).2⟩
   let ⟨A,T⟩:=M h;let ⟨b,hb⟩:=Sq T;exact⟨A,(alK q b MB).1⟩
end
def qQ:ar Y->V Key
 |some d=>[.s d]
 |none=>[]
def aaU(op:Op):ou op=op.operands.toList:=by
 unfold ou;split
 .rename_i d args a;simp[aaV,Call.operands]
 .rfl
section
variable{P:bS}{tt:TT}{dep n:Y}{t:Tr}{ms:Ms}{k:Y}
def alN{l}{d}{e}(g:e.1=bD l)(i:e.2=[.s d]):yX (bD l,[.s d]) e .n:=by
 refine⟨λf a=>?_,λf a=>?_⟩
 .obtain⟨j,rfl⟩:=yZ a;simp only[g];exact a
 .simp only[iU]at a;subst a;simp[i]
def aaW{i}(l:n<=4^dep){d}(a:d<n)(e:dB dep n t k)(f:eP ms k){g}{v}(m:∀o∈v.ak,o<k+1):Left i dep n t ms k g (jk (cP dep d) v t) ms (k+1) g:=
 ⟨O,(e.le O).set l a m,f.le O,λ_ _ h=>⟨h,J⟩,λ_ b _ h=>⟨b,h⟩,lu.refl _⟩
def alO{f}{d g}{e}(i:e<f)(a:e∉Ml f d g):e∉d/\e∉g:=by
 unfold Ml at a;split at a
 .exact⟨ax,a⟩
 .simp only[aY,nO,not_or,not_and]at a;exact⟨λl=>a.1 l (by simpa[rJ]using i),a.2⟩
def alP{e:lS}{p}{d}{f}{vs}{q}{s}{g}{o}{i}{u:Ft}(l:DP e p d f vs t ms k q= .ok s g o i u):
  ∃m a,e f vs ms k= .ok m g o a/\s=jk d m t/\i=Ml p a q/\u= .c k o a:=by
 unfold DP at l
 split at l
 .rename_i m v B a x;obtain⟨rfl,rfl,rfl,rfl,rfl,_⟩:=tI l;exact⟨m,a,x,J,J,J⟩
 .cases l
def Ss{l:lS}(a:vg P l){Q}(oT:Q<=k)(hn:n<=4^dep){o:aX}(hg:o.guard=none){d:Y}(hd:o.dst=ad d)(p:d<n){cf}{args}{U}(q:o.op= .call ⟨.value cf,args,U⟩){f}{vs}{ids}
  (ht:uo (a7 dep n t ms.flatten) cf args.toList=ad (f,vs,ids)) (u:∀e∈ids,e<k) (v:∀e∈cF vs,e<k) (W:dB dep n t k) (x:eP ms k) {wl}{t'}{g}{k'}{B}{ft:Ft} (cq:DP l Q (cP dep d) f vs t ms k wl= .ok t' g k' B ft):
  ∃L,fL P n #[o] 0 (a7 dep n t ms.flatten) (a7 dep n t' g.flatten) k k' L/\yX L (bD<|ou o.op,qQ o.dst) ft/\Left Q dep n t ms k wl t' g k' B:=by
 obtain⟨r,A,y,rfl,rfl,rfl⟩:=alP cq
 let ⟨L,hx,D,h2,E,G⟩:=alI a hn hg hd p q ht u v x y
 let ⟨C,I,J,X,hold,F,c,w⟩:=a.ok y x v
 refine⟨L,hx,⟨λi H=>?_,λi H=>?_⟩,⟨C.le,(W.le C.le).set hn p c,F,λj z M=>?_,λj b z N=>?_,w⟩⟩
 .cases i with
  |s j=>simp only[ou,q];exact D j H
  |m e=>exact E e H
 .cases i with
  |s j=>simp only[hd,qQ];rw[h2 j H];simp
  |m e=>exact G e H
 .let ⟨K,R⟩:=alO z M;exact⟨R,X j O K⟩
 .rcases hold j b N with K|K
  .omega
  .exact K
def aaX(F:b8 P tt=ae){oU:lS}(nX:vg P oU){ke}(oT:ke<=k)(hn:n<=4^dep){o}(hg:o.guard=none){i}(B:HH dep n o.dst o.op=ad i)(U:dB dep n t k)(H:eP ms k){wl}{t'}{W}{k'}{ku}{f:Ft}
  (h:pI oU tt n ke i t ms k wl= .ok t' W k' ku f):
  (∃ks,fL P n #[o] 0 (a7 dep n t ms.flatten) (a7 dep n t' W.flatten) k k' ks/\yX ks (bD<|ou o.op,qQ o.dst) f/\Left ke dep n t ms k wl t' W k' ku)/\(ni o=ah->f= .n):=by
 have gen:∀{d:ar Y},o.dst=d->(∀x,d=ad x->x<n)->Mn dep n d o.op=ad i->∃ks,fL P n #[o] 0 (a7 dep n t ms.flatten) (a7 dep n t' W.flatten) k k' ks/\yX ks (bD<|ou o.op,qQ o.dst) f/\Left ke dep n t ms k wl t' W k' ku:=by
  intro d hd g N;unfold Mn at N;split at N
  .rename_i sl pq;have K:∀dd:ar (Y×V D4),d=dd.map (·.1)->(∀x,dd=ad x->x.2=cP dep x.1/\x.1<n)->i= .gen dd sl o.op->∃ks,fL P n #[o] 0 (a7 dep n t ms.flatten) (a7 dep n t' W.flatten) k k' ks/\yX ks (bD<|ou o.op,qQ o.dst) f/\Left ke dep n t ms k wl t' W k' ku:=by
    intro dd Su DG E;subst E;let ⟨ks,I,L,Q,X,r,D⟩:=alG F oT hn hg (hd.trans Su) DG pq U H h;refine⟨ks,I,⟨λK C=>?_,λK C=>?_⟩,D⟩
    .cases K with
     |s j=>simp only[aaU];exact D1.1<|L j C
     |m R=>exact X R C
    .cases K with
     |s j=>simp[Q j C,qQ]
     |m R=>exact r R C
   cases d with
   |some d=>
    simp only[au]at N
    exact K (ad (d,cP dep d)) J (λx I=>by cases I;exact⟨J,g d J⟩) N.symm
   |none=>
    simp only[au]at N
    exact K none J (λx I=>by cases I) N.symm
  .cases N
 unfold HH at B
 split at B
 .rename_i hd;split at B
  .rename_i ty x y bU;refine⟨?_,λsb=>by simp[ni,hd]at sb⟩;split at B
   .rename_i p q hp hq;cases B;simp only[pI,aay,aax]at h;split at h
    .rename_i v Gc hv hw
     .split at h
      .rename_i R b us sS;split at h
       .rename_i Sv;simp only[Rs.ok.injEq]at h;obtain⟨rfl,rfl,rfl,rfl,rfl⟩:=h;let ⟨I,b0,Aq,HO⟩:=alE (P:=P) (k:=k) F hg hd bU (kr hp hv) (kr hq hw) sS;have Sw:∀j,bu j (pH R b ms)=if R=j then ad b else bu j ms:=λj=>by rw[DO,Aq]
        refine⟨_,I,⟨λK C=>?_,λK C=>?_⟩,⟨O,U.le O,?_,?_,?_,Sj R b ms⟩⟩
        .rcases aY.1 C with C|C
         .obtain⟨j,rfl⟩:=yZ C;simpa[ou,bU,aaV]using C
         .simp only[cX,iU]at C;subst C;simp[qP]
        .simp only[iU]at C;subst C;simp[mD]
        .intro j b' M;rw[Sw]at M;split at M
         .rename_i e;cases M;subst e;exact⟨MC (H _ _ Aq).1,λj hj=>MC<|(HO j hj).elim ((H _ _ Aq).2 j)<|yS Sv j⟩
         .exact(H.le<|Nat.le_succ k) j b' M
        .intro j hj hw';let ⟨L,Q⟩:=Sn hj hw';exact⟨L,by rw[Sw,w<|λe=>Q e.symm]⟩
        .intro j b' _ M;rw[Sw]at M;split at M
         .rename_i e;subst e;exact⟨b0,Aq⟩
         .exact⟨b',M⟩
       .cases h
      .cases h
    .cases h
   .cases B
  .exact⟨gen hd (λx I=>by cases I) B,λsb=>by simp[ni,hd]at sb⟩
 .rename_i d hd;split at B
  .cases B
  .rename_i g;have g:d<n:=yY g;have pv:∀{v:AV},t'=jk (cP dep d) v t->W=ms->k'=k+1->ku=wl->f= .n->(∀R∈v.ak,R<k+1)->fL P n #[o] 0 (a7 dep n t ms.flatten) (a7 dep n (jk (cP dep d) v t) ms.flatten) k (k+1) (bD o.op.operands.toList,[.s d])->
     (∃ks,fL P n #[o] 0 (a7 dep n t ms.flatten) (a7 dep n t' W.flatten) k k' ks/\yX ks (bD<|ou o.op,qQ o.dst) f/\Left ke dep n t ms k wl t' W k' ku)/\(ni o=ah->f= .n):=by
    rintro v rfl rfl rfl rfl rfl Sv I
    exact⟨⟨_,I,alN (by rw[aaU]) (by rw[hd];rfl),aaW hn g U H Sv⟩,λ_=>rfl⟩
   split at B
   .rename_i x bU;split at B
    .rename_i p hp;cases B;simp only[pI,Sc]at h;split at h
     .rename_i v hv;let ⟨L,Q,X,r,D,G⟩:=tI h;exact pv L Q X r D G<|Bf F hg hd g hn (p:= .t) (by simp only[bU,sr,kr hp hv]) A
     .cases h
    .cases B
   .rename_i x bU;split at B
    .rename_i p hp;cases B;simp only[pI,Sc]at h;split at h
     .rename_i v hv;let ⟨L,Q,X,r,D,G⟩:=tI h;exact pv L Q X r D G<|Bf F hg hd g hn (p:= .t) (by simp only[bU,sr,kr hp hv]) A
     .cases h
    .cases B
   .rename_i bo ty x y ty2 bU;split at B
    .rename_i p q hp hq;cases B;simp only[pI,aar,aaq,aap,aao]at h;split at h
     .rename_i a b ha hb
      .split at h
       .rename_i c pr K5;split at h
        .rename_i yP;simp only[Rs.ok.injEq]at h;let ⟨L,Q,X,r,D⟩:=h;refine pv L.symm Q.symm X.symm r.symm D.symm (λR eF=>?_)<|Bf F hg hd g hn (p:=pr) (by simp only[bU,sr,kr hp ha,kr hq hb,K5])<|DM yP;simp only[AV.ak,UQ K5]at eF;cases eF
        .cases h
       .split at h
        .rename_i u hnt;let ⟨L,Q,X,r,D,G⟩:=tI h;exact pv L Q X r D G<|alC F hg hd g hn (p:= .t) (by simp only[bU,uu,kr hp ha,kr hq hb,hnt]) A
        .cases h
     .cases h
    .cases B
   .rename_i ty x y bU;split at B
    .rename_i p q hp hq;cases B;simp only[pI,aas]at h;split at h
     .rename_i v Gc hv hw
      .unfold Mh at h;split at h
       .rename_i u pr E;split at h
        .rename_i yP;let ⟨L,Q,X,r,D,G⟩:=tI h;unfold Z9 at E;split at E
         .rename_i z hz;cases E;exact pv L Q X r D G<|aaN F hg hd g hn (p:=pr) (by simp only[bU,Cu,kr hp hv,kr hq hw,hz])<|DM yP
         .exact pv L Q X r D G<|Bf F hg hd g hn (p:=pr) (by simp only[bU,sr,kr hp hv,kr hq hw,E])<|DM yP
        .cases h
       .cases h
     .cases h
    .cases B
   .rename_i ty x fi bU;split at B
    .rename_i p hp;cases B;simp only[pI,aat]at h;split at h
     .rename_i v hv;split at h
      .rename_i u hu;let ⟨L,Q,X,r,D,G⟩:=tI h;exact pv L Q X r D G<|Bf F hg hd g hn (p:= .t) Sx A
      .cases h
     .cases h
    .cases B
   .rename_i x j bU;split at B
    .rename_i p hp;cases B;simp only[pI,aau]at h;split at h
     .rename_i v hv;split at h
      .rename_i u hu;let ⟨L,Q,X,r,D,G⟩:=tI h;exact pv L Q X r D G<|Bf F hg hd g hn (p:= .t) Sx A
      .cases h
     .cases h
    .cases B
   .rename_i ty x bU;refine⟨?_,λsb=>ME⟩;split at B
    .rename_i p hp;cases B;simp only[pI,aaw]at h;split at h
     .rename_i v hv;split at h
      .rename_i u ids hu;obtain⟨rfl,rfl,rfl,rfl,rfl,G⟩:=tI h;refine⟨_,alD F hg hd g hn bU (kr hp hv) hu,⟨λK C=>?_,λK C=>?_⟩,aaW hn g U H G⟩
       .rcases aY.1 C with C|C
        .obtain⟨j,rfl⟩:=yZ C;simpa[ou,bU,aaV]using C
        .cases K with
         |s j=>exfalso;revert C;generalize ids=l;intro C;induction l with
          |nil=>simp[cX]at C
          |cons a l ih=>simp[cX]at C;exact ih C
         |m R=>simp only[qP];revert C;generalize ids=l;intro C;induction l with
          |nil=>simp[cX]at C
          |cons a l ih=>simp only[cX,bX,Key.m.injEq]at C⊢;exact C.elim .inl<|λh=> .inr<|ih h
       .simp only[iU]at C;subst C;simp[hd,qQ]
      .cases h
     .cases h
    .cases B
   .rename_i fn args k6 bU;refine⟨?_,λsb=>ME⟩;split at B
    .rename_i ps T;cases B;simp only[pI,aaz]at h;split at h
     .rename_i vs Z;exact Ss nX oT hn hg hd g bU (ids:=[]) (by simp only[uo,Mu T Z,St.ev]) (λ_ h=>eV) (Mv U T Z) U H h
     .cases h
    .cases B
   .rename_i j args k6 bU;refine⟨?_,λsb=>ME⟩;split at B
    .rename_i p ps hp T;cases B;simp only[pI,aaA]at h;split at h
     .rename_i vs Z;split at h
      .rename_i fn I;exact Ss nX oT hn hg hd g bU (ids:=[]) (by simp only[uo,Mu T Z,kr hp I]) (λ_ h=>eV) (Mv U T Z) U H h
      .rename_i R I;split at h
       .rename_i fn first zX hb
        split at h
        .rename_i us ws hu hw;have hlb:S R (a7 dep n t ms.flatten).mem=ad (.gM fn first zX):=by show S R ms.flatten=_;rw[ja];exact hb
         refine Ss nX oT hn hg hd g bU (ids:=[R]) (by simp only[uo,Mu T Z,kr hp I,hlb,hu,hw]) (λi E=>?_) (λi E=>?_) U H h
         .simp only[iU]at E;subst E;exact(H _ _ hb).1
         .rw[JI,JI]at E;have HO:=(H _ _ hb).2;simp only[aE.ak,aY]at HO;rcases aY.1 E with E|E
          .exact HO i<|.inl<|CC hu i E
          .rcases aY.1 E with E|E
           .exact Mv U T Z i E
           .exact HO i<|.inr<|CC hw i E
        .cases h
       .cases h
      .cases h
     .cases h
    .cases B
   .rename_i x ty bU;refine⟨?_,λsb=>ME⟩;split at B
    .rename_i p hp;cases B;simp only[pI,aav]at h;split at h
     .rename_i v hv;split at h
      .rename_i u hu;let ⟨L,Q,X,r,D,G⟩:=tI h;unfold Z' at hu;split at hu
       .rename_i z hz;cases hu;exact(pv L Q X r D G<|aaN F hg hd g hn (p:= .t) (by simp only[bU,Cu,kr hp hv,hz]) A).1
       .exact(pv L Q X r D G<|Bf F hg hd g hn (p:= .t) Sx A).1
      .cases h
     .cases h
    .cases B
   .rename_i L Q X r D G h7 h8 h9 h10;refine⟨gen hd (λx I=>by cases I;exact g) B,λsb=>?_⟩;exfalso;unfold ni at sb;rw[hd]at sb;revert sb;clear pv gen h B;cases bU:o.op with
    |move x=>exact absurd bU<|L x
    |assign x=>exact absurd bU<|Q x
    |binOp a b c d e=>exact absurd bU<|X a b c d e
    |indexAddr a b c=>exact absurd bU<|r a b c
    |fieldAddr a b c=>exact absurd bU<|D a b c
    |extract a b=>exact absurd bU<|G a b
    |_=>simp
end
section
variable{P:bS}{tt:TT}{dep n:Y}{t:Tr}{ms:Ms}{k:Y}
def Left.refl{f}{e}(a:Go.El.dB dep n t k)(d:Go.El.eP ms k):Left f dep n t ms k e t ms k e:=⟨aW _,a,d,λ_ _ h=>⟨h,J⟩,λ_ b _ h=>⟨b,h⟩,lu.refl _⟩
def Left.trans{m}{p}{q s}{a d}{u v}{e f}(l:Left m dep n t ms k p q a u e)(g:Left m dep n q a u e s d v f):Left m dep n t ms k p s d v f:=
 ⟨bQ l.le g.le,g.dB,g.eP,λj i x=>by
  let ⟨o,h2⟩:=g.log j i x;let ⟨B,C⟩:=l.log j i o;exact⟨B,h2.trans C⟩,λj b i F=>by
  let ⟨H,o⟩:=g.Bh j b i F;exact l.Bh j H i o,l.tl.trans g.tl⟩
def alT{d}{op:Op}{i}(a:HH dep n (ad d) op=ad i):d<n:=by
 unfold HH at a;simp only at a;split at a
 .cases a
 .rename_i e;exact yY e
def aaY(bW:b8 P tt=ae){oU:lS}(F:vg P oU){ke}(oT:ke<=k)(hn:n<=4^dep){l}{i}{o}(ho:l[i]? =ad o){gi:GI}(p:Sd dep n l.toList o=ad gi)(L:dB dep n t k)(Q:eP ms k){wl}{t'}{U}{k'}{ku}{f:Ft}
  (e:uZ oU tt n ke gi t ms k wl= .ok t' U k' ku f):
  (∃ks,fL P n l i (a7 dep n t ms.flatten) (a7 dep n t' U.flatten) k k' ks/\yX ks (xb l.toList o) f/\Left ke dep n t ms k wl t' U k' ku)/\(ni o=ah->f= .n):=by
 unfold Sd at p
 split at p
 .rename_i z v;split at p
  .rename_i K;cases p;simp only[uZ]at e;let ⟨⟨ks,A,h2,D⟩,E⟩:=aaX bW F oT hn K v L Q e;refine⟨⟨ks,A.lift ho K,?_,D⟩,E⟩;have:xb l.toList o=(bD<|ou o.op,qQ o.dst):=by unfold xb qQ;rw[K];cases o.dst<;>rfl
   rw[this];exact h2
  .rename_i j q K;split at p
   .rename_i X G;split at p
    .rename_i W;have W:X<n:=yY W;have a:xb l.toList o=(.s X::bD (ou o.op),qQ o.dst):=by unfold xb qQ;rw[K];simp only[G];cases o.dst<;>rfl
     have I:gi.g=ad (cP dep X,q)/\gi.i=z/\gi.d=o.dst.map (cP dep):=by
      split at p
      .rename_i d H;cases p;exact⟨J,J,by rw[H];rfl⟩
      .rename_i H;cases p;exact⟨J,J,by rw[H];rfl⟩
     let ⟨M,r,N⟩:=I;simp only[uZ,M,r,N]at e;split at e
     .rename_i b R;have w:S X (a7 dep n t ms.flatten).sl=ad (.c<|.B b):=by show S X (eE dep n t)=_;rw[r8,ao W];exact R
      split at e
      .rename_i u;have u:b=q:=by simpa using u
       subst u;let ⟨⟨ks,A,h2,D⟩,E⟩:=aaX (o:={o with guard:=none}) bW F oT hn J v L Q e;refine⟨⟨_,fL.guard ho K G w A,⟨λx C=>?_,h2.2⟩,D⟩,E⟩
       .rcases bX.1 C with rfl|C
        .simp[a]
        .have:=h2.1 x C;cases x with
         |s j=>rw[a];exact jF _ this
         |m id=>exact this
      .rename_i u;cases H:o.dst with
       |none=>rw[H]at e;cases e
       |some d=>
        rw[H]at e v
        simp only[uh,Rs.ok.injEq]at e
        obtain⟨rfl,rfl,rfl,rfl,rfl⟩:=e
        have y:=alT v
        refine⟨⟨_,fL.O5 (af0 ho K G w (by cases b<;>cases q<;>simp at u⊢) H) ?_,⟨λx C=>?_,λx C=>?_⟩,⟨O,(L.le O).del hn y,Q.le O,λ_ _ e=>⟨e,J⟩,λ_ b _ e=>⟨b,e⟩,lu.refl _⟩⟩,λ_=>rfl⟩
        .rw[alf dep n t ms.flatten d hn y,U0]
        .simp only[iU]at C;subst C;simp[a]
        .simp only[iU]at C;subst C;simp[a,H,qQ]
     .cases e
    .cases p
   .cases p
 .cases p
def aaZ{a:lS}{i:Y}:∀{s:V GI}{t:Tr}{ms:Ms}{k:Y}{g:V Y}{l:Tr}{d:Ms}{m:Y}{e:V Y}{f:Ft},u5 a tt n i s t ms k g= .ok l d m e f->∀p,∃q,xa a tt n i s t ms k g p= .ok l d m e q
 |[],t,ms,k,g,l,d,m,e,f,o,p=>by have u:Rs.ok t ms k g .n= .ok l d m e f:=o;simp only[Rs.ok.injEq]at u;obtain⟨rfl,rfl,rfl,rfl,rfl⟩:=u;exact⟨p,J⟩
 |x::r,t,ms,k,g,l,d,m,e,f,o,p=>by
  have B:u5 a tt n i (x::r) t ms k g=match uZ a tt n i x t ms k g with| .ok l d m e _=>u5 a tt n i r l d m e| .no=> .no:=rfl
  have C:xa a tt n i (x::r) t ms k g p=match uZ a tt n i x t ms k g with| .ok l d m e f=>xa a tt n i r l d m e (f::p)| .no=> .no:=rfl
  rw[B]at o;rw[C];cases v:uZ a tt n i x t ms k g with
  |no=>rw[v]at o;cases o
  |ok t1 F K H f1=>
   rw[v]at o
   exact aaZ o _
def aa0(bW:b8 P tt=ae){q:lS}(F:vg P q){ke:Y}(hn:n<=4^dep){p:Array aX}:∀(H:V aX)(i:Y){gs:V GI}{t:Tr}{ms:Ms}{k:Y}{U:V Y}{W:V Ft}{L:Tr}{e:Ms}{Q:Y}{m:V Y}{s:V Ft},
  xa q tt n ke gs t ms k U W= .ok L e Q m s->u6 dep n p.toList H=ad gs->az i p.toList=H->ke<=k->dB dep n t k->eP ms k->
  ∃(ds:V (V (Key×Info)×V (Key×ar Info)))(cl:V Y)(kk:V Ks)(fk:V Ft),Steps P n p i H (a7 dep n t ms.flatten) (a7 dep n L e.flatten) k Q ds cl/\U5 ds kk/\s=fk.reverse++W/\Z fk=Z H/\(∀(d:Y) a o f,kk[d]? =ad a->H[d]? =ad o->fk[d]? =ad f->yX a (xb p.toList o) f/\(ni o=ah->f= .n))/\Left ke dep n t ms k U L e Q m
 |[],i,gs,t,ms,k,U,W,L,e,Q,m,s,v,hc,_,_,lT,jl=>by simp only[u6,au]at hc;subst hc;have h':Rd.ok t ms k U W= .ok L e Q m s:=v;simp only[Rd.ok.injEq]at h';obtain⟨rfl,rfl,rfl,rfl,rfl⟩:=h';refine⟨[],[k],[],[],⟨J,J,J,J,?_,ax,ax,J⟩,⟨J,λd v=>by simp at v⟩,ax,J,λd a o f v=>by simp at v,Left.refl lT jl⟩;intro d a b _ h2;simp at h2
 |o::H,i,gs,t,ms,k,U,W,L,e,Q,m,s,v,hc,u,c,lT,jl=>by
  simp only[u6]at hc;split at hc
  .rename_i g r hg D;cases hc;have e2:xa q tt n ke (g::r) t ms k U W=match uZ q tt n ke g t ms k U with| .ok L e Q m f=>xa q tt n ke r L e Q m (f::W)| .no=> .no:=rfl
   rw[e2]at v;split at v
   .rename_i t1 ms1 k1 Sy f1 hs;have ho:p[i]? =ad o:=by have:=a6 (λl=>l[0]?) u;simpa[uc]using this
    have x:az (i+1) p.toList=H:=by rw[<-oN,u];rfl
    let ⟨⟨ks,⟨rd,wr,E,G,w,hle,I,M⟩,N,A⟩,y⟩:=aaY bW F c hn ho hg lT jl hs;let ⟨ds,cl,kk,fk,B,⟨R,S⟩,T,Sz,z,hL2⟩:=aa0 bW F hn H (i+1) v D x (bQ c A.le) A.dB A.eP;refine⟨(rd,wr)::ds,k::cl,ks::kk,f1::fk,⟨by simp[B.len],by simp[B.Wc],J,by simpa using B.last,?_,?_,?_,?_⟩,⟨by simp[R],λd hj hj'=>?_⟩,by rw[T];simp,by simp[Sz],?_,A.trans hL2⟩
    .intro d a b ha hb;cases d with
     |zero=>
      simp only[l3,au,eH,vC]at ha hb
      rw[B.first]at hb
      cases hb
      omega
     |succ d=>exact B.mono d a b xL sC
    .intro d hj a b ha hb;cases d with
     |zero=>
      simp only[l3,au,eH,vC]at ha hb
      rw[B.first]at hb
      cases hb
      subst ha
      simpa using E
     |succ d=>
      have:=B.step d nt a b xL sC
      rw[(O:i+(d+1)=i+1+d)]
      simpa using this
    .intro d hj kx C;cases d with
     |zero=>simp only[tX]at C;simpa[nR]using G kx C
     |succ d=>
      simp only[zB]at C
      have:=B.reads d nt kx C
      rw[w]at this
      simpa[nR]using this
    .rw[B.fin,w];simp[nR]
    .cases d with
     |zero=>exact⟨I,M⟩
     |succ d=>exact S d nt (by simpa using hj')
    .intro d a o' f' ha K X;cases d with
     |zero=>
      simp only[l3,au]at ha K X
      subst ha K X
      exact⟨N,y⟩
     |succ d=>exact z d a o' f' xL (by simpa using K) (by simpa using X)
   .cases v
  .cases hc
def alX(jT:P.follows .mixedOrders=ae){F}{q}{d}{H Q}{k v}{m}{L}(x:Steps P F.n d 0 d.toList H Q k v m L)
  (U:q=ae->(∀i o e,d[i]? =ad o->e∈o.after->Region.binds .any e=ae->e.on<i)/\
   ∀i l,i<l->l<d.size->∀f,((f∈fD (E m i ([],[])).2/\f∈fD (E m l ([],[])).2)\/(f∈fD (E m i ([],[])).2/\f∈dq (E m l ([],[])).1)\/(f∈dq (E m i ([],[])).1/\f∈fD (E m l ([],[])).2))->lB d i l)
 {id}{p':Exit->Act->World->Prop} (hQ:∀g W a,br F (·<v) Q.kn g W a->p' .normal a W)
 {g}{W}{a}(h0:br F (·<k) H.kn g W a) (js:zs F.rd d):(Code.region id d q).wpIn (fC F.rd) 0 P p' a W:=by
 have S:Z m=d.size:=by simpa using x.len
 have T:Z L=d.size+1:=by simpa using x.Wc
 let c:Y->Y:=λl=>E L l v
 have p:∀l,l<d.size+1->L[l]? =ad (c l):=by intro l C;have:l<Z L:=O;simp only[c,aM,cK this,pS]
 have s:L[d.size]? =ad v:=by simpa using x.last
 have G:∀i,c i<=c (i+1):=by
  intro i;rcases oH i d.size with w|w
  .exact x.mono i _ _ (p i O)<|p (i+1) O
  .have h:c (i+1)=v:=by simp only[c,aM];rw[jP O];rfl
   rcases oH d.size i with y|y
   .have z:c i=v:=by simp only[c,aM];rw[jP O];rfl
    omega
   .have:i=d.size:=by omega
    subst this;have z:c d.size=v:=by simp only[c,aM,s,pS]
    omega
 have A:c 0=k:=by simp only[c,aM,x.first,pS]
 have D:c d.size=v:=by simp only[c,aM,s,pS]
 have I:∀i,i<d.size->tT P F.n d i ((E m i ([],[])).1) ((E m i ([],[])).2) (pU c i):=by intro i w;have:=x.step i O _ _ (p i O)<|p (i+1) O;rw[zK m _ i O];rw[eH]at this;exact this
 have M:∀i,i<d.size->∀r∈(E m i ([],[])).1,fold (λi=>(E m i ([],[])).2) H.kn (cd i) r.1=ad r.2:=by intro i w r K;rw[I6 m H.kn i O];rw[zK m _ i O]at K;exact x.reads i O r K
 have B:∀g W a,br F (·<c d.size) (fold (λi=>(E m i ([],[])).2) H.kn<|cd d.size) g W a->p' .normal a W:=by intro g W a N;refine hQ g W a ?_;rw[x.fin];rw[I6 m H.kn d.size O,iO O,D]at N;exact N
 have X:br F (·<c 0) H.kn g W a:=by rw[A];exact h0
 cases q with
 |false=>exact UA G X I M B js
 |true=>
  let ⟨z,h⟩:=U J
  exact UB G jT z X I M (λi l u C f a b=>h i l u C f<|.inl ⟨a,b⟩) (λi l u C f a b=>h i l u C f<|.inr<|.inl ⟨a,b⟩) (λi l u C f a b=>h i l u C f<|.inr<|.inr ⟨a,b⟩) B js
def SA{k f:Y}{i:V Y}:∀{l:V Y},HE k f i l=ah->∀a∈l,a∉i/\¬(k<=a/\a<f)
 |[],_,a,d=>by cases d
 |x::p,d,a,e=>by
  simp only[HE]at d;split at d
  .cases d
  .rename_i m;split at d
   .cases d
   .rename_i o;rcases bX.1 e with rfl|e
    .refine⟨λg=>(by rw[Mx.2 g]at m;cases m),λg=>?_⟩;have:(dT k a&&dj a f)=ae:=by simp[Nat.ble_eq,rJ,g]
     rw[this]at o;cases o
    .exact SA d a e
def MF{k:Y}:∀{l:V Y},HG k l=ah->∀d∈l,k<=d
 |[],_,d,e=>by cases e
 |x::m,e,d,a=>by
  simp only[HG]at e;split at e
  .cases e
  .rename_i i;rcases bX.1 a with rfl|a
   .rcases oH d k with f|g
    .have:dj d k=ae:=by simpa[rJ]using f
     rw[this]at i;cases i
    .exact g
   .exact MF e d a
def SB{l m}:DQ l m=ah->∀d∈l,d∉m:=by
 induction l with
 |nil=>intro _ d h;cases h
 |cons x r f=>
  intro h d a
  simp only[DQ]at h
  split at h
  .cases h
  .rename_i e;rcases bX.1 a with rfl|a
   .intro g;rw[Mx.2 g]at e;cases e
   .exact f h d a
def alY{f g:Ft}(d:Bc f g=ah) id:¬(mD f id/\mD g id)/\¬(mD f id/\qP g id)/\¬(qP f id/\mD g id):=by
 cases f with
 |n=>simp[mD,qP]
 |m r w=>
  cases g with
  |n=>simp[mD,qP]
  |m q s=>
   simp only[Bc,SC]at d
   exact⟨λa=>SB d.1.1 id a.1 a.2,λa=>SB d.1.2 id a.1 a.2,λa=>SB d.2 id a.1 a.2⟩
  |c k o wl=>
   simp only[Bc,SC]at d
   have p:w=[]:=by cases w<;>simp at d⊢
   subst p
   refine⟨by simp[mD],by simp[mD],λa=>?_⟩
   let ⟨i,l⟩:=SA d.2 id a.1
   rcases a.2 with e|e
   .exact i e.1
   .exact l e
 |c k o wl=>
  cases g with
  |n=>simp[mD,qP]
  |m r w=>
   simp only[Bc,SC]at d
   refine⟨λa=>?_,λa=>?_,λa=>?_⟩
   .have i:=MF d.1.1 id a.2;have l:=MF d.1.2 id a.2;rcases a.1 with e|e<;>omega
   .let ⟨i,l⟩:=SA d.2 id a.2;rcases a.1 with e|e
    .exact i e.1
    .exact l e
   .have i:=MF d.1.1 id a.2;have:id<k:=a.1;omega
  |c _ _ _=>simp[Bc]at d
def aa1{g:V Ft}:∀{l:V (Y×Y)},DR g l=ae->∀i f,(i,f)∈l->Bc (g.getD i .n) (g.getD f .n)=ah
 |[],_,i,f,d=>by cases d
 | (a,o)::p,d,i,f,hm=>by
  simp only[DR]at d;split at d
  .cases d
  .rename_i m;rcases bX.1 hm with e|hm
   .cases e;exact m
   .exact aa1 d i f hm
def aa2{m j:Y}:∀{l:V aX}{i0 a:Y}{o:aX},l[a]? =ad o->ni o=ae->i0+a<j->Nat.testBit m (i0+a)=ah->(i0+a,j)∈DT m j l i0
 |[],i0,a,o,h,_,_,_=>by simp at h
 |x::g,i0,0,o,h,ht,d,e=>by simp only[l3,au]at h;subst h;simp only[iR]at d e⊢;simp only[DT,d,b7,ht,e,Cn,Bool.and_self];simp
 |x::g,i0,a+1,o,h,ht,d,e=>by
  have f:=aa2 (m:=m) (j:=j) (l:=g) (i0:=i0+1) (a:=a) dL ht O (by rw[(O:i0+1+a=i0+(a+1))];exact e);rw[(O:i0+1+a=i0+(a+1))]at f;simp only[DT];rw[ao O];split
  .exact jF _ f
  .exact f
def aa3{opsL:V aX}{i:Y}{s:aX}(u:opsL[i]? =ad s)(d:ni s=ae):∀{ml:V Y}{os:V aX}{j0 a:Y}{o:aX}{m:Y},ml[a]? =ad m->os[a]? =ad o->ni o=ae->i<j0+a->Nat.testBit m i=ah->(i,j0+a)∈DU opsL ml os j0
 |[],os,j0,a,o,m,g,_,_,_,_=>by simp at g
 |p::ml,[],j0,a,o,m,_,g,_,_,_=>by simp at g
 |p::ml,x::os,j0,0,o,m,hm,f,ht,e,hb=>by simp only[l3,au]at hm f;subst hm f;simp only[DU,ht,b7,iR]at e⊢;refine dY _ ?_;have:=aa2 (m:=p) (j:=j0) (l:=opsL) (i0:=0) (a:=i) u d O sC;simpa using this
 |p::ml,x::os,j0,a+1,o,m,hm,f,ht,e,hb=>by
  have q:=aa3 u d (ml:=ml) (os:=os) (j0:=j0+1) (a:=a) (by simpa using hm) (by simpa using f) ht O hb;rw[(O:j0+1+a=j0+(a+1))]at q;simp only[DU];split
  .exact fU _ q
  .exact q
end
end Go.El
