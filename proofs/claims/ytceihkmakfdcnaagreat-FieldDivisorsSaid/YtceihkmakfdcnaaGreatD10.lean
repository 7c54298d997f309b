/- Contract: division by a monic polynomial, by the plain law. Own work; no condition. -/
import Derived.Test.YtceihkmakfdcnaaGreatD9
import Derived.Test.YtceihkmakfdcnaaGreatD4
set_option linter.all false
set_option maxHeartbeats 16000000
set_option maxRecDepth 100000
open Bool renaming rec->Ab,false->ah,true->ae
open Go renaming Operand->eI,FuncId->kd,Oper->a4,Value->aV,Program->bW
open Go.El renaming ja->S,jd->r
open Go.Op renaming operands->adh
open Go.World renaming cell?->DA
open List renaming length->Z,getD->E,rec->lp,range->bX,drop->aA,take->c
open Nat renaming beq->g6,ble->dP,blt->dy,rec->Od
open Option renaming some->ad
open _root_ renaming List->V,Option->ax,Nat->Y
namespace Go.El
open Go Go.Proofs Go.RowKit
def an3{l}{k}t(a:k<Z l)(d:E l k 0=0):Rx.zx (l.set k t)=Rx.zx l+Rx.K (t:Rat)*Rx.X k:=Rx.ext λi=>by
 rw[Rx.eV,Rx.fh,Rx.E3,Rx.ll,Rx.ll,uk _ _ _ _ a];by_cases e:k=i
 .subst e;rw[b J,b J,d,Rat.intCast_zero];grind
 .rw[w e,w<|λa=>e a.symm];grind
inductive D4 where
 |a|b|c|d
inductive T4(f:Type) where
 |e
 |lf (v:f)
 |nd (a b c d:T4 f)
section
variable{α:Type}
noncomputable def jA(p:V D4):T4 α->ax α:=lp (motive:=λ_=>T4 α->ax α)
 (λt=>T4.rec (motive:=λ_=>ax α) none (λv=>ad v) (λ_ _ _ _ _ _ _ _=>none) t)
 (λx _ f t=>T4.rec (motive:=λ_=>ax α) none (λ_=>none) (λa b c d _ _ _ _=>D4.rec (motive:=λ_=>ax α) (f a) (f b) (f c) (f d) x) t) p
noncomputable def jK(p:V D4)(v:α):T4 α->T4 α:=lp (motive:=λ_=>T4 α->T4 α)
 (λ_=> .lf v)
 (λx _ f t=>T4.rec (motive:=λ_=>T4 α)
  (D4.rec (motive:=λ_=>T4 α) (.nd (f .e) .e .e .e) (.nd .e (f .e) .e .e) (.nd .e .e (f .e) .e) (.nd .e .e .e<|f .e) x)
  (λ_=>D4.rec (motive:=λ_=>T4 α) (.nd (f .e) .e .e .e) (.nd .e (f .e) .e .e) (.nd .e .e (f .e) .e) (.nd .e .e .e<|f .e) x)
  (λa b c d _ _ _ _=>D4.rec (motive:=λ_=>T4 α) (.nd (f a) b c d) (.nd a (f b) c d) (.nd a b (f c) d) (.nd a b c<|f d) x) t) p
noncomputable def Fk(p:V D4):T4 α->T4 α:=lp (motive:=λ_=>T4 α->T4 α)
 (λ_=> .e)
 (λx _ f t=>T4.rec (motive:=λ_=>T4 α) .e (λ_=> .e)
  (λa b c d _ _ _ _=>D4.rec (motive:=λ_=>T4 α) (.nd (f a) b c d) (.nd a (f b) c d) (.nd a b (f c) d) (.nd a b c<|f d) x) t) p
def Aa:∀p:V D4,jA p (.e:T4 α)=none
 |[]=>rfl
 |_::_=>rfl
def Jf(v:α):∀(p:V D4)(t:T4 α),jA p (jK p v t)=ad v
 |[],_=>rfl
 |x::p,t=>by cases t<;>cases x<;>exact Jf v p _
def Fl(v:α):∀(p a:V D4)(t:T4 α),Z p=Z a->p≠a->jA a (jK p v t)=jA a t
 |[],[],_,_,d=>absurd J d
 |[],_::_,_,d,_=>by simp at d
 |_::_,[],_,d,_=>by simp at d
 |x::p,y::a,t,hl,d=>by
  have f:Z p=Z a:=vw;by_cases g:x=y
  .subst g;have i:p≠a:=λe=>d rW
   cases t<;>cases x<;>first|exact Fl v p a _ f i|exact(Fl v p a _ f i).trans<|Aa a
  .cases t<;>cases x<;>cases y<;>first|rfl|exact Aa a|exact absurd rfl g
def Ud:∀(p:V D4)(t:T4 α),jA p (Fk p t)=none
 |[],_=>rfl
 |x::p,t=>by cases t<;>cases x<;>first|rfl|exact Ud p _
def Ue:∀(p a:V D4)(t:T4 α),Z p=Z a->p≠a->jA a (Fk p t)=jA a t
 |[],[],_,_,d=>absurd J d
 |[],_::_,_,d,_=>by simp at d
 |_::_,[],_,d,_=>by simp at d
 |x::p,y::a,t,hl,d=>by
  have g:Z p=Z a:=vw;by_cases f:x=y
  .subst f;have i:p≠a:=λe=>d rW
   cases t<;>cases x<;>first|rfl|exact Ue p a _ g i
  .cases t<;>cases x<;>cases y<;>first|rfl|exact absurd rfl f
end
def n6:Y->D4
 |0=> .a
 |1=> .b
 |2=> .c
 |_=> .d
def de:Y->Y->V D4
 |0,_=>[]
 |n+1,t=>n6 (t/4^n)::de n (t%4^n)
def Uf:∀n t,(de n t).length=n
 |0,_=>rfl
 |n+1,t=>by simp[de,Uf n]
def NP{a d}(k:a<4)(l:d<4)(f:n6 a=n6 d):a=d:=by have g:a=0\/a=1\/a=2\/a=3:=O;have i:d=0\/d=1\/d=2\/d=3:=O;rcases g with rfl|rfl|rfl|rfl<;>rcases i with rfl|rfl|rfl|rfl<;>first|rfl| (simp[n6]at f)
def Cw:∀(n:Y){a d:Y},a<4^n->d<4^n->de n a=de n d->a=d
 |0,a,d,f,g,_=>by simp at f g;omega
 |n+1,a,d,f,g,i=>by simp only[de,KB]at i;have k:0<4^n:=gQ D;have l:a/4^n=d/4^n:=NP (yL<|by rw[fO]at f;omega) (yL<|by rw[fO]at g;omega) i.1;have m:a%4^n=d%4^n:=Cw n (fS _ k) (fS _ k) i.2;rw[<-rC a (4^n),<-rC d (4^n),l,m]
abbrev Tr:=T4 AV
abbrev Mem:=V<|Y×aG
section
variable{α:Type}
noncomputable def mX(a:Y)(l:V (Y×α)):ax α:=lp (motive:=λ_=>ax α) none
 (λh _ d=>Prod.rec (motive:=λ_=>ax α) (λk x=>Ab (motive:=λ_=>ax α) d (ad x)<|g6 k a) h) l
noncomputable def Jg(a:Y)(v:α)(l:V (Y×α)):V (Y×α):=lp (motive:=λ_=>V<|Y×α) [(a,v)]
 (λh r d=>Prod.rec (motive:=λ_=>V<|Y×α) (λk x=>Ab (motive:=λ_=>V<|Y×α) ((k,x)::d) ((a,v)::r)<|g6 k a) h) l
def x4(a:Y):∀l:V (Y×α),mX a l=S a l
 |[]=>rfl
 | (k,x)::d=>by
  have f:=x4 a d;show Ab (motive:=λ_=>ax α) (mX a d) (ad x) (g6 k a)=_;simp only[S];by_cases h:k=a
  .subst h;rw[Jh,b J]
  .have:g6 k a=ah:=by
    cases g:g6 k a
    .rfl
    .exact absurd (lL g) h
   rw[this,w h];exact f
def acm(a:Y)(v:α):∀l:V (Y×α),Jg a v l=iE a v l
 |[]=>rfl
 | (k,x)::d=>by
  have f:=acm a v d;show Ab (motive:=λ_=>V<|Y×α) ((k,x)::Jg a v d) ((a,v)::d) (g6 k a)=_;simp only[iE];by_cases h:k=a
  .subst h;rw[Jh,b J]
  .have:g6 k a=ah:=by
    cases g:g6 k a
    .rfl
    .exact absurd (lL g) h
   rw[this,w h];simp only[f]
end
noncomputable def eY(dep n:Y)(t:Tr):V (Y×AV):=(bX n).filterMap λj=>(jA (de dep j) t).map λv=>(j,v)
noncomputable def bh(dep n:Y)(t:Tr)(m:Mem):St:=⟨eY dep n t,m,0,[]⟩
def acn{f:Type}(g:Y->ax f)(t:Y):∀l:V Y,S t (l.filterMap λa=>(g a).map λv=>(a,v))=if t∈l then g t else none
 |[]=>rfl
 |a::l=>by
  have d:=acn g t l;simp only[List.filterMap_cons];cases hg:g a with
  |none=>
   simp only[Option.map_none,d,b9]
   by_cases h:t=a
   .subst h;simp[hg]
   .simp[h]
  |some v=>
   simp only[vG,S,d,b9]
   by_cases h:a=t
   .subst h;simp[hg]
   .have:t≠a:=λe=>h e.symm
    simp[h,this]
def tx dep n t a:S a (eY dep n t)=if a<n then jA (de dep a) t else none:=by unfold eY;rw[acn (λa=>jA (de dep a) t) a];simp only[l3]
def Fo(dep n:Y)(t:Tr)(m:Mem):(bh dep n t m).kn=λ| .s a=>((if a<n then jA (de dep a) t else none)).map .v| .m id=>(S id m).map .b:=by
 funext k;cases k with
 |s a=>simp only[bh,St.kn,tx]
 |m id=>rfl
def aco dep n(t:Tr) d a v(i:n<=4^dep)(g:d<n):S a (eY dep n<|jK (de dep d) v t)=if d=a then ad v else S a (eY dep n t):=by
 rw[tx,tx];by_cases h:d=a
 .subst h;simp[g,Jf]
 .rw[w h];by_cases f:a<n
  .rw[b f,b f,Fl _ _ _ _ Fp<|λe=>h<|Cw dep O O e]
  .rw[w f,w f]
def an4 dep n(t:Tr) d a(i:n<=4^dep)(g:d<n):S a (eY dep n<|Fk (de dep d) t)=if d=a then none else S a (eY dep n t):=by
 rw[tx,tx];by_cases h:d=a
 .subst h;simp[g,Ud]
 .rw[w h];by_cases f:a<n
  .rw[b f,b f,Ue _ _ _ Fp<|λe=>h<|Cw dep O O e]
  .rw[w f,w f]
def Fq dep n(t:Tr)(m:Mem) d v(a:n<=4^dep)(f:d<n):(bh dep n (jK (de dep d) v t) m).kn=bs (bh dep n t m).kn [(.s d,ad<|.v v)]:=by
 funext k;cases k with
 |s j=>
  simp only[bh,St.kn,bs,aE,Key.s.injEq,aco dep n t d j v a f]
  split<;>simp
 |m id=>simp[bh,St.kn,bs,aE]
def an5 dep n(t:Tr)(m:Mem) d(a:n<=4^dep)(f:d<n):(bh dep n (Fk (de dep d) t) m).kn=bs (bh dep n t m).kn [(.s d,none)]:=by
 funext k;cases k with
 |s j=>
  simp only[bh,St.kn,bs,aE,Key.s.injEq,an4 dep n t d j a f]
  split<;>simp
 |m id=>simp[bh,St.kn,bs,aE]
def acp dep n t(m f:Mem) wr(g:∀a,(S a f).map Info.b=bs (bh dep n t m).kn wr (.m a))(i:∀d,aE wr (.s d)=none):(bh dep n t f).kn=bs (bh dep n t m).kn wr:=by
 funext k;cases k with
 |s d=>simp[bh,St.kn,bs,i d]
 |m a=>exact g a
def N8:Int->Int->Bool
 | .ofNat m,.ofNat n=>dP m n
 | .negSucc _,.ofNat _=>ae
 | .negSucc m,.negSucc n=>dP n m
 | .ofNat _,.negSucc _=>ah
def Ug:Int->Int->Bool
 | .ofNat m,.ofNat n=>g6 m n
 | .negSucc m,.negSucc n=>g6 m n
 |_,_=>ah
def acq a d:N8 a d=decide (a<=d):=by cases a<;>cases d<;>simp only[N8]<;>rw[Bool.eq_iff_iff]<;>simp[Nat.ble_eq]<;>omega
def an6 a d:Ug a d=decide (a=d):=by cases a<;>cases d<;>simp only[Ug]<;>rw[Bool.eq_iff_iff]<;>simp<;>omega
def N9:Int->Bool
 | .ofNat m=>dy m 9223372036854775808
 | .negSucc m=>dy m 9223372036854775808
def an7{n}(a:N9 n=ae):gT n:=by
 cases n with
 |ofNat m=>simp only[N9,s7]at a;unfold gT;simp only[Int.ofNat_eq_natCast];omega
 |negSucc m=>simp only[N9,s7]at a;unfold gT;omega
def uS:Pr->Bool
 | .t=>ae
 | .i64 n=>N9 n
 | .AO d=>Bool.not<|Ug d 0
 | .le a d=>N8 a d
 | .lt a d=>Bool.not<|N8 d a
 | .AP a d=>dy a d
 | .tM a d=>a==d
 | .and p f=>match uS p with
  |true=>uS f
  |false=>ah
def Fs:∀{p:Pr},uS p=ae->p.h
 | .t,_=>trivial
 | .i64 _,d=>an7 d
 | .AO f,d=>by simp only[uS,an6]at d;simpa[Pr.h]using d
 | .le a f,d=>by simp only[uS,acq]at d;simpa[Pr.h]using d
 | .lt a f,d=>by simp only[uS,acq]at d;simpa[Pr.h]using d
 | .AP a f,d=>by simpa[uS,Pr.h,s7]using d
 | .tM a f,d=>by simpa[uS,Pr.h]using d
 | .and p i,d=>by
  simp only[uS]at d;split at d
  .rename_i g;exact⟨Fs g,Fs d⟩
  .cases d
def Fu(k:Y):C->Bool
 | .P id _=>dy id k
 | .X id=>dy id k
 | .Y id _ _ _=>dy id k
 | .L id _ _ _=>dy id k
 | .W id _ _=>dy id k
 |_=>ae
def acr{k}{a}(d:Fu k a=ae):∀f∈a.ak,f<k:=by cases a<;>simp only[Fu,C.ak,s7]at d⊢<;>simp<;>exact d
noncomputable def uT(k:Y)(l:V C):Bool:=lp (motive:=λ_=>Bool) ae (λc _ a=>Ab (motive:=λ_=>Bool) ah a<|Fu k c) l
def Ac{k:Y}:∀{l:V C},uT k l=ae->∀d∈bV l,d<k
 |[],_=>by simp[bV]
 |g::i,m=>by
  have f:Ab (motive:=λ_=>Bool) ah (uT k i) (Fu k g)=ae:=m;cases hc:Fu k g with
  |false=>rw[hc]at f;cases f
  |true=>
   rw[hc]at f
   intro d a
   simp only[bV,bg]at a
   rcases a with a|a
   .exact acr hc d a
   .exact Ac f d a
noncomputable def Ji(k:Y)(l:V (Bool×V C)):Bool:=lp (motive:=λ_=>Bool) ae (λc _ a=>Ab (motive:=λ_=>Bool) ah a<|uT k c.2) l
def N'{k:Y}:∀{l:V (Bool×V C)},Ji k l=ae->∀d∈eW l,d<k
 |[],_=>by simp[eW]
 |g::i,m=>by
  have f:Ab (motive:=λ_=>Bool) ah (Ji k i) (uT k g.2)=ae:=m;cases hc:uT k g.2 with
  |false=>rw[hc]at f;cases f
  |true=>
   rw[hc]at f
   intro d a
   simp only[eW,bg]at a
   rcases a with a|a
   .exact Ac hc d a
   .exact N' f d a
noncomputable def acs(k:Y):AV->Bool
 | .c x=>Fu k x
 | .a cs=>uT k cs
 | .t d=>Ji k d
def an8{k}{v}(d:acs k v=ae):∀f∈v.ak,f<k:=by
 cases v with
 |c x=>exact acr d
 |a cs=>exact Ac d
 |t g=>exact N' d
inductive Pd where
 |s (p:V D4)
 |k (v:AV)
noncomputable def jZ(t:Tr):Pd->ax AV
 | .s p=>jA p t
 | .k v=>ad v
noncomputable def x5(t:Tr)(l:V Pd):ax (V AV):=lp (motive:=λ_=>ax<|V AV) (ad [])
 (λx _ a=>match jZ t x with
  |some v=>(match a with
   |some vs=>ad<|v::vs
   |none=>none)
  |none=>none) l
def iR(dep n:Y):eI->ax Pd
 | .tmp a=>(match dy a n with
  |true=>ad<|.s<|de dep a
  |false=>none)
 | .const v=>ad<|.k<|Dm v
 | .func f=>ad<|.k<|.c<|.V<|.func (.func f) #[] #[]
 | .global _=>none
def x6(dep n:Y):V eI->ax (V Pd)
 |[]=>ad []
 |x::xs=>(match iR dep n x,x6 dep n xs with
  |some p,ad ps=>ad<|p::ps
  |_,_=>none)
abbrev Ms:=V Mem
noncomputable def bD(a:Y)(d:Ms):ax aG:=lp (motive:=λ_=>ax aG) none
 (λm _ f=>match mX a m with
  |some b=>ad b
  |none=>f) d
noncomputable def qX(a:Y)(d:aG)(f:Ms):Ms:=lp (motive:=λ_=>Ms) []
 (λm r g=>match mX a m with
  |some _=>Jg a d m::r
  |none=>m::g) f
def uU(a:Y):Ms->Ms
 |[]=>[]
 |m::d=>ry a m::uU a d
def Ad(k:Y)(a:aG):Ms->Ms
 |m::d=>((k,a)::m)::d
 |[]=>[[(k,a)]]
def jB(a:Y):∀d:Ms,S a d.flatten=bD a d
 |[]=>rfl
 |m::f=>by
  have g:=jB a f;show _=match mX a m with|some b=>ad b|none=>bD a f
  rw[KZ,Ee,x4,g];cases S a m<;>rfl
def Fv(d a:Y)(g:aG):∀k:Ms,bD d (qX a g k)=match bD a k with
  |some _=>if a=d then ad g else bD d k
  |none=>bD d k
 |[]=>rfl
 |m::f=>by
  have n:=Fv d a g f;have l:∀d(m:Mem)(f:Ms),bD d (m::f)=match mX d m with|some g=>ad g|none=>bD d f:=λ_ _ _=>rfl
  have o:qX a g (m::f)=match mX a m with|some _=>Jg a g m::f|none=>m::qX a g f:=rfl
  rw[o,l a m f];cases h:mX a m with
  |some x=>
   simp only[l,x4,acm,ov]
   by_cases i:a=d
   .simp[i]
   .simp[i]
  |none=>
   simp only[l,n]
   cases h2:bD a f with
   |none=>rfl
   |some x=>
    by_cases i:a=d
    .subst i;simp[h]
    .simp[i]
def Cx(a d:Y):∀g:Ms,bD a (uU d g)=if d=a then none else bD a g
 |[]=>by simp[uU,bD]
 |m::f=>by
  have i:=Cx a d f;have k:∀a(m:Mem)(f:Ms),bD a (m::f)=match mX a m with|some b=>ad b|none=>bD a f:=λ_ _ _=>rfl
  simp only[uU,k,x4,A3,i];by_cases l:d=a<;>simp[l]
def Jj a k d ms:bD a (Ad k d ms)=if k=a then ad d else bD a ms:=by
 have f:∀a(m:Mem)(r:Ms),bD a (m::r)=match mX a m with|some d=>ad d|none=>bD a r:=λ_ _ _=>rfl
 cases ms with
 |nil=>simp only[Ad,f,x4,S];by_cases h:k=a<;>simp[h,bD]
 |cons m r=>simp only[Ad,f,x4,S];by_cases h:k=a<;>simp[h]
inductive Ft where
 |n
 |m (rd a:V Y)
 |c (k d:Y) (f:V Y)
inductive Rs where
 |no
 |ok (t:Tr) (ms:Ms) (k:Y) (a:V Y) (f:Ft)
inductive Cr where
 |no
 |ok (r:AV) (ms:Ms) (k:Y) (a:V Y)
abbrev mY:=kd->V AV->Ms->Y->Cr
inductive Oa where
 |mv (d:V D4) (x:Pd)
 |bin (d:V D4) (op:BinOp) (a:Y) (x y:Pd)
 |idx (d:V D4) (a:Y) (x i:Pd)
 |fad (d:V D4) (a:Y) (x:Pd) (f:Y)
 |ext (d:V D4) (x:Pd) (k:Y)
 |len (d:V D4) (a:Y) (x:Pd)
 |ld (d:V D4) (a:Y) (x:Pd)
 |st (a:Y) (x y:Pd)
 |gen (d:ax (Y×V D4)) (sl:V (Y×V D4)) (op:Op)
 |call (d:V D4) (f:kd) (args:V Pd)
 |acv (d:V D4) (x:Pd) (args:V Pd)
noncomputable def uV(d:V D4)(v:AV)(t:Tr)(a:Ms)(k:Y)(g:V Y)(f:Ft):Rs:=match acs k v with
 |true=> .ok (jK d v t) a k g f
 |false=> .no
noncomputable def Ob(d:V D4)(a:ax (AV×Pr))(t:Tr)(f:Ms)(k:Y)(g:V Y):Rs:=match a with
 |some (v,p)=>(match uS p with
  |true=>uV d v t f (k+1) g .n
  |false=> .no)
 |none=> .no
def acw(a:TT)(d:Y)(v f:AV):ax (AV×Pr):=match Li a d v f with
 |some r=>ad r
 |none=>Kx a d v f
def acx(a:TT)(d:Y)(v:AV):ax AV:=match Lj a d v with
 |some r=>ad r
 |none=>GC a d v
noncomputable def Oc(l:V C):Y->ax C:=lp (motive:=λ_=>Y->ax C) (λ_=>none) (λc _ a n=>Od (motive:=λ_=>ax C) (ad c) (λm _=>a m) n) l
noncomputable def acy(n:Y):V C->V C:=Od (motive:=λ_=>V C->V C) (λl=>l) (λ_ a l=>lp (motive:=λ_=>V C) [] (λ_ r _=>a r) l) n
def Cy(a:C):ax (V C)->ax (V C)
 |some d=>ad<|a::d
 |none=>none
noncomputable def Uh(n:Y):V C->ax (V C):=Od (motive:=λ_=>V C->ax (V C)) (λ_=>ad []) (λ_ a l=>lp (motive:=λ_=>ax<|V C) none (λc r _=>Cy c<|a r) l) n
noncomputable def Ui(a:V C):V C->ax (V C):=lp (motive:=λ_=>V C->ax (V C)) (λl=>ad l) (λu _ d l=>lp (motive:=λ_=>ax<|V C) none (λ_ r _=>Cy u<|d r) l) a
noncomputable def Uj(d:V C)(a:Y):V C->ax (V C):=Od (motive:=λ_=>V C->ax (V C)) (Ui d) (λ_ f l=>lp (motive:=λ_=>ax<|V C) none (λc r _=>Cy c<|f r) l) a
def acz:∀(l:V C)(n:Y),Oc l n=l[n]?
 |[],n=>by simp[Oc]
 |d::a,0=>rfl
 |d::a,n+1=>by show Oc a n=_;rw[acz a n,wW]
def acA:∀(n:Y)(l:V C),acy n l=aA n l
 |0,l=>rfl
 |n+1,[]=>rfl
 |n+1,d::a=>acA n a
def Uk{d}{o}{x}(f:Cy d o=ad x):∃a,o=ad a/\x=d::a:=by
 cases o with
 |none=>cases f
 |some a=>cases f;exact⟨a,J,J⟩
def acB:∀(n:Y)(l x:V C),Uh n l=ad x->n<=Z l/\x=c n l
 |0,l,x,a=>by cases a;exact⟨aY _,J⟩
 |n+1,[],x,a=>by cases a
 |n+1,f::d,x,a=>by obtain⟨y,g,rfl⟩:=Uk (show Cy f (Uh n d)=ad x from a);let ⟨i,h2⟩:=acB n d y g;exact⟨by simpa using i,by simp[h2]⟩
def acC:∀(a l x:V C),Ui a l=ad x->Z a<=Z l/\x=a++aA (Z a) l
 |[],l,x,d=>by cases d;exact⟨aY _,J⟩
 |u::a,[],x,d=>by cases d
 |u::a,k::f,x,d=>by obtain⟨y,g,rfl⟩:=Uk (show Cy u (Ui a f)=ad x from d);let ⟨i,h2⟩:=acC a f y g;exact⟨by simpa using i,by simp[h2]⟩
def acD(d:V C):∀(a:Y)(l x:V C),Uj d a l=ad x->a+Z d<=Z l/\x=c9 l d a
 |0,l,x,f=>by let ⟨g,h2⟩:=acC d l x f;exact⟨O,by simp[c9,h2]⟩
 |a+1,[],x,f=>by cases f
 |a+1,c::r,x,f=>by obtain⟨y,i,rfl⟩:=Uk (show Cy c (Uj d a r)=ad x from f);let ⟨g,h2⟩:=acD d a r y i;refine⟨b8,?_⟩;simp[c9,h2,(O:a+1+Z d=a+Z d+1)]
noncomputable def Jk(f:V C)(d sz:Y)(g:Bool):ax AV:=match g with
 |true=>(match Uh sz (acy d f)with
  |some x=>ad<|.a x
  |none=>none)
 |false=>(match Oc f d with
  |some c=>ad<|.c c
  |none=>none)
def Ul{f}{d sz}{g}{x}(a:Jk f d sz g=ad x)(l:sz=0->d<=Z f):nJ f d sz g=ad x:=by
 unfold Jk at a;unfold nJ;split at a
 .split at a
  .rename_i y m;cases a;let ⟨i,h2⟩:=acB _ _ _ m;rw[acA]at i h2;rw[b J,b (by simp at i;by_cases n:sz=0;have:=l n;omega;omega),h2]
  .cases a
 .split at a
  .rename_i c k;cases a;rw[acz]at k;simp[k]
  .cases a
noncomputable def Um(d:TT)(f:Ms)(g:Y)(v:AV):ax (AV×V Y):=match qj d g with
 |some (0,_)=>none
 |some (sz,a)=>(match v with
  | .c (.P id off)=>(match bD id f with
   |some (.box _ _ cs)=>(match Jk cs off sz a with
    |some y=>ad (y,[id])
    |none=>none)
   |some (.fz _ cs)=>(match Jk cs off sz a with
    |some y=>ad (y,[id])
    |none=>none)
   |_=>none)
  | .c (.E T e off)=>(match Jk (av T e) off sz a with
   |some y=>ad (y,[])
   |none=>none)
  |_=>none)
 |none=>none
def Oe:V C->Bool
 |[]=>ae
 |a::d=>match kq a with
  |true=>Oe d
  |false=>ah
def acE:∀{l:V C},Oe l=ae->l.all kq=ae
 |[],_=>rfl
 |f::g,a=>by
  simp only[Oe]at a;split at a
  .rename_i d;simp[d,acE a]
  .cases a
noncomputable def acF(f d sz:Y)(a:V C):ax aG->ax (Y×aG×V C)
 |some (.box g i cs)=>(match g6 (Z a) sz&&Oe a with
  |true=>(match Uj a d cs with
   |some x=>ad (f,.box g i x,a)
   |none=>none)
  |false=>none)
 |_=>none
noncomputable def Un(a:TT)(d:Ms)(f:Y)(x v:AV):ax (Y×aG×V C):=match qj a f,x,kQ v with
 |some (sz,_),.c (.P id off),ad us=>acF id off sz us<|bD id d
 |_,_,_=>none
def Cz(f a:Y)(d:V Y):V Y:=match dy a f with
 |true=>a::d
 |false=>d
def Og(f:Y)(a d:V Y):V Y:=match a with
 |[]=>d
 |_=>a.filter (λg=>dy g f)++d
noncomputable def Oh(k:Y):V (V C×V C)->Bool
 |[]=>ae
 |x::a=>match uT k x.1 with
  |true=>(match uT k x.2 with
   |true=>Oh k a
   |false=>ah)
  |false=>ah
def acG{k:Y}:∀{xs:V (V C×V C)},Oh k xs=ae->∀d∈lB xs,d<k
 |[],_,d,a=>by simp[lB]at a
 |x::l,f,d,a=>by
  simp only[Oh]at f;split at f
  .rename_i g;split at f
   .rename_i i;simp only[lB,bg]at a;rcases a with a|a|a
    .exact Ac g d a
    .exact Ac i d a
    .exact acG f d a
   .cases f
  .cases f
noncomputable def Jl(k:Y):aG->Bool
 | .box _ _ cs=>uT k cs
 | .vec _ _ _=>ae
 | .hY _ a d=>match Ji k a with
  |true=>Ji k d
  |false=>ah
 | .fz _ cs=>uT k cs
 | .mp _ _ xs=>Oh k xs
 | .it m _ _=>dy m k
def acH{k}{i}(d:Jl k i=ae):∀l∈i.ak,l<k:=by
 cases i with
 |box E z cs=>exact Ac d
 |vec E T xs=>simp[aG.ak]
 |hY f a i=>
  simp only[Jl]at d
  split at d
  .rename_i o;intro l g;simp only[aG.ak,bg]at g;exact g.elim (N' o l)<|N' d l
  .cases d
 |fz E cs=>exact Ac d
 |mp p s xs=>exact acG d
 |it m n seen=>simpa[aG.ak,Jl]using d
noncomputable def n8(d:V (Y×V D4))(t:Tr):V (Y×AV):=lp (motive:=λ_=>V<|Y×AV) []
 (λx _ a=>match jA x.2 t with
  |some v=>(x.1,v)::a
  |none=>a) d
def Ae:V (Y×AV)->V Y
 |[]=>[]
 | (_,v)::a=>v.ak++Ae a
noncomputable def tz(a:V Y)(g:Ms):Mem:=lp (motive:=λ_=>Mem) []
 (λd _ f=>match bD d g with
  |some b=>(d,b)::f
  |none=>f) a
def acI:Hu:=λ_ _ _ _=>none
def mK:V Key->V Y
 |[]=>[]
 | .m id::a=>id::mK a
 | .s _::a=>mK a
def wS(d:ax Y):V Key->Bool
 |[]=>ae
 | .m _::a=>wS d a
 | .s f::a=>(match d with
  |some d=>(match g6 d f with
   |true=>wS (ad d) a
   |false=>ah)
  |none=>ah)
def CA(a:Y):V Y->Bool
 |[]=>ah
 |x::d=>match g6 x a with
  |true=>ae
  |false=>CA a d
def rS(a:V Y):V Key->Bool
 |[]=>ae
 | .m _::d=>rS a d
 | .s f::d=>(match CA f a with
  |true=>rS a d
  |false=>ah)
noncomputable def CB(k m:Y)(n f:Mem)(i:V Y):Ms->V Y->ax (Ms×V Y):=lp (motive:=λ_=>Ms->V Y->ax (Ms×V Y))
 (λd g=>ad (d,g))
 (λa _ l d g=>match mX a f with
  |some b=>(match Jl (k+1) b with
   |true=>(match g6 a k with
    |true=>l (Ad k b d) g
    |false=>(match bD a d with
     |some _=>l (qX a b d)<|Cz m a g
     |none=>none))
   |false=>none)
  |none=>(match mX a n with
   |some _=>l (uU a d)<|Cz m a g
   |none=>none)) i
noncomputable def Uo(s:TT)(n y:Y)(d:ax (Y×V D4))(A:V (Y×V D4))(op:Op)(t:Tr)(u:Ms)(k:Y)(x:V Y)(f:V (Y×AV))(o:Mem):Rs:=
 match Rk acI s n k (d.map (·.1)) op ⟨f,o,0,[]⟩with
 |some (g,B,a)=>(match g6 B (k+1)&&wS (d.map (·.1)) a.2&&rS (A.map (·.1)) a.1 with
  |true=>(match CB k y o g.mem (mK a.2) u x with
   |some (i,l)=>(match d with
    |none=> .ok t i (k+1) l<|.m (mK a.1)<|mK a.2
    |some (C,p)=>(match S C g.sl with
     |some v=>uV p v t i (k+1) l<|.m (mK a.1)<|mK a.2
     |none=> .no))
   |none=> .no)
  |false=> .no)
 |none=>(match d with
  |some (_,p)=>Ob p (vP s ⟨f,o,0,[]⟩ op) t u k x
  |none=> .no)
noncomputable def Fw(g:mY)(m:Y)(d:V D4)(f:kd)(vs:V AV)(t:Tr)(n:Ms)(k:Y)(o:V Y):Rs:=match g f vs n k with
 | .ok r i l a=>uV d r t i l (Og m a o)<|.c k l a
 | .no=> .no
noncomputable def Up(d:V D4)(x:Pd)(t:Tr)(a:Ms)(k:Y)(f:V Y):Rs:=match jZ t x with
 |some v=>uV d v t a (k+1) f .n
 |none=> .no
noncomputable def acJ(f:TT)(d:V D4)(op:BinOp)(g:Y)(a i:C)(t:Tr)(l:Ms)(k:Y)(m:V Y):Rs:=match Rn f op g (.c a) (.c i)with
 |some u=>uV d u t l (k+1) m .n
 |none=> .no
noncomputable def acK(d:V D4)(a:C)(p:Pr)(t:Tr)(f:Ms)(k:Y)(g:V Y):Rs:=match uS p with
 |true=> .ok (jK d (.c a) t) f (k+1) g .n
 |false=> .no
noncomputable def acL(f:TT)(d:V D4)(op:BinOp)(g:Y)(a i:C)(t:Tr)(l:Ms)(k:Y)(m:V Y):Rs:=match Ds f op g a i with
 |some (c,p)=>acK d c p t l k m
 |none=>acJ f d op g a i t l k m
noncomputable def acM(f:TT)(d:V D4)(op:BinOp)(g:Y)(x y:Pd)(t:Tr)(i:Ms)(k:Y)(l:V Y):Rs:=match jZ t x,jZ t y with
 |some (.c a),ad (.c b)=>acL f d op g a b t i k l
 |_,_=> .no
noncomputable def acN(a:TT)(d:V D4)(f:Y)(x i:Pd)(t:Tr)(g:Ms)(k:Y)(l:V Y):Rs:=match jZ t x,jZ t i with
 |some v,ad w=>Ob d (acw a f v w) t g k l
 |_,_=> .no
noncomputable def acO(a:TT)(d:V D4)(g:Y)(x:Pd)(f:Y)(t:Tr)(i:Ms)(k:Y)(l:V Y):Rs:=match jZ t x with
 |some v=>(match Ku a g v f with
  |some u=>uV d u t i (k+1) l .n
  |none=> .no)
 |none=> .no
noncomputable def acP(d:V D4)(x:Pd)(a:Y)(t:Tr)(f:Ms)(k:Y)(g:V Y):Rs:=match jZ t x with
 |some v=>(match Kv v a with
  |some u=>uV d u t f (k+1) g .n
  |none=> .no)
 |none=> .no
noncomputable def acQ(a:TT)(d:V D4)(f:Y)(x:Pd)(t:Tr)(g:Ms)(k:Y)(i:V Y):Rs:=match jZ t x with
 |some v=>(match acx a f v with
  |some u=>uV d u t g (k+1) i .n
  |none=> .no)
 |none=> .no
noncomputable def acR(f:TT)(d:V D4)(g:Y)(x:Pd)(t:Tr)(a:Ms)(k:Y)(i:V Y):Rs:=match jZ t x with
 |some v=>(match Um f a g v with
  |some (u,ids)=>uV d u t a (k+1) i<|.m ids []
  |none=> .no)
 |none=> .no
noncomputable def acS(d a:Y)(f:aG)(g:V C)(t:Tr)(i:Ms)(k:Y)(l:V Y):Rs:=match uT k g with
 |true=> .ok t (qX a f i) (k+1) (Cz d a l)<|.m [a] [a]
 |false=> .no
noncomputable def acT(d:TT)(f:Y)(g:Y)(x y:Pd)(t:Tr)(a:Ms)(k:Y)(i:V Y):Rs:=match jZ t x,jZ t y with
 |some v,ad w=>(match Un d a g v w with
  |some (id,b,us)=>acS f id b us t a k i
  |none=> .no)
 |_,_=> .no
noncomputable def an9(i:TT)(n l:Y)(d:ax (Y×V D4))(f:V (Y×V D4))(op:Op)(t:Tr)(g:Ms)(k:Y)(m:V Y):Rs:=match n8 f t with
 |a=>Uo i n l d f op t g k m a<|tz (Ae a) g
noncomputable def acU(a:mY)(g:Y)(d:V D4)(f:kd)(args:V Pd)(t:Tr)(i:Ms)(k:Y)(l:V Y):Rs:=match x5 t args with
 |some vs=>Fw a g d f vs t i k l
 |none=> .no
noncomputable def acV(a:mY)(l:Y)(d:V D4)(x:Pd)(args:V Pd)(t:Tr)(i:Ms)(k:Y)(m:V Y):Rs:=match x5 t args with
 |some vs=>(match jZ t x with
  |some (.c<|.V<|.func (.func f) ⟨[]⟩ ⟨[]⟩)=>Fw a l d f vs t i k m
  |some (.c<|.X id)=>(match bD id i with
   |some (.hY f first g)=>(match s0 first,s0 g with
    |some us,ad ws=>Fw a l d f (us++(vs++ws)) t i k m
    |_,_=> .no)
   |_=> .no)
  |_=> .no)
 |none=> .no
noncomputable def qY(g:mY)(a:TT)(n k:Y)(i:Oa):Tr->Ms->Y->V Y->Rs:=match i with
 | .mv d x=>Up d x
 | .bin d op ty x y=>acM a d op ty x y
 | .idx d ty x i=>acN a d ty x i
 | .fad d ty x f=>acO a d ty x f
 | .ext d x j=>acP d x j
 | .len d ty x=>acQ a d ty x
 | .ld d ty x=>acR a d ty x
 | .st ty x y=>acT a k ty x y
 | .gen d sl op=>an9 a n k d sl op
 | .call d f args=>acU g k d f args
 | .acv d x args=>acV g k d x args
structure GI where
 g:ax (V D4×Bool)
 d:ax (V D4)
 i:Oa
noncomputable def wy(a:mY)(m:TT)(n o:Y)(x:GI)(t:Tr)(f:Ms)(k:Y)(l:V Y):Rs:=match x.g with
 |none=>qY a m n o x.i t f k l
 |some (p,want)=>(match jA p t with
  |some (.c<|.B b)=>(match b==want with
   |true=>qY a m n o x.i t f k l
   |false=>(match x.d with
    |some d=> .ok (Fk d t) f (k+1) l .n
    |none=> .no))
  |_=> .no)
noncomputable def wz(a:mY)(m:TT)(n o:Y)(l:V GI):Tr->Ms->Y->V Y->Rs:=lp (motive:=λ_=>Tr->Ms->Y->V Y->Rs)
 (λt d k f=> .ok t d k f .n)
 (λx _ p t d k f=>match wy a m n o x t d k f with
  | .ok s g u i _=>p s g u i
  | .no=> .no) l
inductive Rd where
 |no
 |ok (t:Tr) (ms:Ms) (k:Y) (a:V Y) (fs:V Ft)
noncomputable def x7(a:mY)(p:TT)(n s:Y)(l:V GI):Tr->Ms->Y->V Y->V Ft->Rd:=lp (motive:=λ_=>Tr->Ms->Y->V Y->V Ft->Rd)
 (λt d k g i=> .ok t d k g i)
 (λx _ u t d k g i=>match wy a p n s x t d k g with
  | .ok v m y o f=>u v m y o<|f::i
  | .no=> .no) l
def Fy:V Y->V Y->Bool
 |[],_=>ah
 |x::a,l=>match CA x l with
  |true=>ae
  |false=>Fy a l
def Jm(k a:Y)(d:V Y):V Y->Bool
 |[]=>ah
 |x::f=>match CA x d with
  |true=>ae
  |false=>(match dP k x&&dy x a with
   |true=>ae
   |false=>Jm k a d f)
def Jn(k:Y):V Y->Bool
 |[]=>ah
 |x::a=>match dy x k with
  |true=>ae
  |false=>Jn k a
def CC:Ft->Ft->Bool
 | .n,_=>ah
 |_,.n=>ah
 | .m d a,.m i g=>Fy a g||Fy a i||Fy d g
 | .m d a,.c k f wl=> !a.isEmpty||Jm k f wl d
 | .c k f wl,.m d a=>Jn k a||Jn f a||Jm k f wl d
 | .c _ _ _,.c _ _ _=>ae
def Fz(a:V Ft):V (Y×Y)->Bool
 |[]=>ae
 | (i,d)::f=>match CC (a.getD i .n) (a.getD d .n)with
  |true=>ah
  |false=>Fz a f
def pQ:Op->V eI
 | .call ⟨.value a,args,_⟩=>a::args.toList
 |op=>op.operands.toList
def slotsOf:V eI->V Y
 |[]=>[]
 | .tmp d::a=>d::slotsOf a
 |_::a=>slotsOf a
def FA(dep n:Y):V Y->ax (V<|Y×V D4)
 |[]=>ad []
 |a::d=>(match dy a n,FA dep n d with
  |true,ad l=>ad<|(a,de dep a)::l
  |_,_=>none)
def Oi(dep n:Y)(d:ax Y)(op:Op):ax Oa:=match FA dep n (slotsOf op.operands.toList)with
 |some sl=>(match d with
  |some d=>ad<|.gen (ad (d,de dep d)) sl op
  |none=>ad<|.gen none sl op)
 |none=>none
def Jo(dep n:Y)(d:ax Y)(op:Op):ax Oa:=match d with
 |none=>(match op with
  | .store t x y=>(match iR dep n x,iR dep n y with
   |some p,ad q=>ad<|.st t p q
   |_,_=>none)
  |op=>Oi dep n none op)
 |some d=>(match dy d n with
  |false=>none
  |true=>(match op with
   | .move x=>(match iR dep n x with
    |some p=>ad<|.mv (de dep d) p
    |none=>none)
   | .assign x=>(match iR dep n x with
    |some p=>ad<|.mv (de dep d) p
    |none=>none)
   | .binOp o t x y _=>(match iR dep n x,iR dep n y with
    |some p,ad q=>ad<|.bin (de dep d) o t p q
    |_,_=>none)
   | .indexAddr t x y=>(match iR dep n x,iR dep n y with
    |some p,ad q=>ad<|.idx (de dep d) t p q
    |_,_=>none)
   | .fieldAddr t x f=>(match iR dep n x with
    |some p=>ad<|.fad (de dep d) t p f
    |none=>none)
   | .extract x j=>(match iR dep n x with
    |some p=>ad<|.ext (de dep d) p j
    |none=>none)
   | .load t x=>(match iR dep n x with
    |some p=>ad<|.ld (de dep d) t p
    |none=>none)
   | .call ⟨.value<|.func f,args,_⟩=>(match x6 dep n args.toList with
    |some ps=>ad<|.call (de dep d) f ps
    |none=>none)
   | .call ⟨.value<|.tmp j,args,_⟩=>(match iR dep n (.tmp j),x6 dep n args.toList with
    |some p,ad ps=>ad<|.acv (de dep d) p ps
    |_,_=>none)
   | .call ⟨.builtin .len,⟨[x]⟩,⟨[t]⟩⟩=>(match iR dep n x with
    |some p=>ad<|.len (de dep d) t p
    |none=>none)
   |op=>Oi dep n (ad d) op))
def Uq(dep n:Y)(a:V a4)(o:a4):ax GI:=match Jo dep n o.dst o.op with
 |some i=>(match o.guard with
  |none=>ad ⟨none,none,i⟩
  |some (j,want)=>(match oT a j with
   |some f=>(match dy f n with
    |true=>(match o.dst with
     |some d=>ad ⟨ad (de dep f,want),ad<|de dep d,i⟩
     |none=>ad ⟨ad (de dep f,want),none,i⟩)
    |false=>none)
   |none=>none))
 |none=>none
def wA(dep n:Y)(a:V a4):V a4->ax (V GI)
 |[]=>ad []
 |o::os=>(match Uq dep n a o,wA dep n a os with
  |some g,ad gs=>ad<|g::gs
  |_,_=>none)
def x8(a:V a4)(o:a4):Ks:=
 ((match o.guard with
  |none=>bK<|pQ o.op
  |some (j,_)=>(match oT a j with
   |some f=> .s f::bK (pQ o.op)
   |none=>bK<|pQ o.op)),
  match o.dst with
  |some d=>[.s d]
  |none=>[])
def n9(o:a4):Bool:=match o.dst with
 |none=>ae
 |some _=>(match o.op with
  | .move _=>ah
  | .assign _=>ah
  | .binOp _ _ _ _ _=>ah
  | .indexAddr _ _ _=>ah
  | .fieldAddr _ _ _=>ah
  | .extract _ _=>ah
  |_=>ae)
def FB(m a:Y):V a4->Y->V (Y×Y)
 |[],_=>[]
 |o::os,i=>if i<a then(if n9 o&& !m.testBit i then(i,a)::FB m a os (i+1)else FB m a os (i+1))else[]
def FC(a:V a4):V Y->V a4->Y->V (Y×Y)
 |m::ms,o::os,d=>if n9 o then FB m d a 0++FC a ms os (d+1)else FC a ms os (d+1)
 |_,_,_=>[]
def Oj(dep n:Y)(a:V a4)(d:Bool):ax (V GI×ax (V<|Y×Y)):=match wA dep n a a with
 |some gs=>(match d with
  |false=>ad (gs,none)
  |true=>if sS a (a.map<|x8 a)=ae then ad (gs,ad<|FC a (qo a []) a 0)else none)
 |none=>none
def FD{a d:Type}(f:a->d->Bool):V a->V d->Bool
 |[],[]=>ae
 |x::xs,y::g=>f x y&&FD f xs g
 |_,_=>ah
def lq.uW:ET->ET->Bool
 | .int k,.int a=>decide<|k=a
 | .bool,.bool=>ae
 | .z,.z=>ae
 | .q,.q=>ae
 | .sl T,.sl d=>lq.uW T d
 | .pr A B,.pr f g=>lq.uW A f&&lq.uW B g
 |_,_=>ah
def lq:(T d:ET)->T.den->d.den->Bool
 | .int k,.int g,(n:Int),(m:Int)=>decide (k=g)&&decide (n=m)
 | .bool,.bool,(a:Bool),(f:Bool)=>a==f
 | .z,.z,(n:Int),(m:Int)=>decide<|n=m
 | .q,.q,(a:Rat),(f:Rat)=>decide (a.num=f.num)&&decide (a.den=f.den)
 | .sl T,.sl d,(xs:V T.den),(i:V d.den)=>lq.uW T d&&FD (λx y=>lq T d x y) xs i
 | .pr A B,.pr l o,x,y=>lq A l x.1 y.1&&lq B o x.2 y.2
 |_,_,_,_=>ah
def an':∀{T a:ET},lq.uW T a=ae->T=a:=by
 intro T;induction T with
 |int k=>intro a h;cases a<;>simp[lq.uW]at h;rw[h]
 |bool=>intro a h;cases a<;>simp[lq.uW]at h;rfl
 |z=>intro a h;cases a<;>simp[lq.uW]at h;rfl
 |q=>intro a h;cases a<;>simp[lq.uW]at h;rfl
 |sl T g=>intro a h;cases a<;>simp[lq.uW]at h;rw[g h]
 |pr A B d f=>intro a h;cases a<;>simp[lq.uW]at h;rw[d h.1,f h.2]
def acW{d:Type}{f:d->d->Bool}(i:∀x y,f x y=ae->x=y):∀{xs g:V d},FD f xs g=ae->xs=g
 |[],[],_=>rfl
 |x::xs,y::g,a=>by simp only[FD,cz]at a;rw[i _ _ a.1,acW i a.2]
 |[],_::_,a=>by simp[FD]at a
 |_::_,[],a=>by simp[FD]at a
def aoa:∀(T:ET)(x y:T.den),lq T T x y=ae->x=y:=by
 intro T;induction T with
 |int k=>intro x y h;simp only[lq,cz,decide_eq_true_eq]at h;exact h.2
 |bool=>intro x y h;exact eq_of_beq h
 |z=>intro x y h;exact aU h
 |q=>intro x y h;simp only[lq,cz,decide_eq_true_eq]at h;exact Rat.ext h.1 h.2
 |sl T f=>intro x y h;simp only[lq,cz]at h;exact acW f h.2
 |pr A B a d=>intro x y h;simp only[lq,cz]at h;exact Prod.ext (a _ _ h.1)<|d _ _ h.2
def FE{a:Type}(f:a->V C->Bool)(n:Y):V C->V a->Bool
 |_,[]=>ae
 |cs,x::xs=>f x (c n cs)&&FE f n (aA n cs) xs
def aob(a:Y):ax Y->Bool
 |none=>ae
 |some d=>dP a d
def Jp(a:Y->ax aG)(T:ET)(f:T.den->V C->Bool)(d:C)(xs:V T.den):Bool:=
 match d with
 | .S g i=>lq (.sl g) (.sl T) i xs
 | .V (.slice none 0 0)=>xs.isEmpty
 | .L id off len cap=>g6 len (Z xs)&&dP (len*T.n) 140737488355328&&aob len cap&&(match a id with
  |some (.box _ _ cs)=>FE f T.n (aA off cs) xs
  |some (.fz _ cs)=>FE f T.n (aA off cs) xs
  |_=>ah)
 |_=>ah
def Jq(d:Y->ax aG)(a:Int):V C->Bool
 |[.B s,f]=>(s==cd a)&&Jp d (.int .u32) (λn g=>match g with|[.I .u32 m]=>decide (m=n)|_=>ah) f (eG a)
 |_=>ah
def wB(d:Y->ax aG):(T:ET)->T.den->V C->Bool
 | .int k,n,a=>(match a with|[.I g m]=>decide (g=k)&&decide (m=n)|_=>ah)
 | .bool,i,a=>(match a with|[.B l]=>l==i|_=>ah)
 | .z,o,a=>Jq d o a
 | .q,f,a=>Jq d f.num (c 2 a)&&Jq d (f.den:Int) (aA 2 a)
 | .sl T,xs,a=>(match a with|[p]=>Jp d T (λx a=>wB d T x a) p xs|_=>ah)
 | .pr A B,x,a=>wB d A x.1 (c A.n a)&&wB d B x.2 (aA A.n a)
def Ok(a:Y->ax aG):C->C->Bool
 | .B d,.B f=>d==f
 | .I k n,.I g i=>decide (k=g)&&decide (n=i)
 |l,.S T xs=>Jp a T (wB a T) l xs
 |_,.any=>ae
 |_,_=>ah
def wC(a:Y->ax aG):V C->V C->Bool
 |[],[]=>ae
 |f::cs,d::ds=>Ok a f d&&wC a cs ds
 |_,_=>ah
def FF(a:Y->ax aG):V (Bool×V C)->V (Bool×V C)->Bool
 |[],[]=>ae
 | (d,cs)::f,(g,ds)::i=>(d==g)&&wC a cs ds&&FF a f i
 |_,_=>ah
def CE(d:Y->ax aG):AV->AV->Bool
 | .c x,.c y=>Ok d x y
 | .a cs,.a ds=>wC d cs ds
 | .t f,.t g=>FF d f g
 |_,_=>ah
section
variable{F:fj}{g:Gh}{W:World}{lk:Y->ax aG}
structure wD(f:FH)(g:Gh)(W:World)(lk:Y->ax aG):Prop where
 le:cL g.H f
 cE:∀a E d,((∃sz,lk a=ad (.box E sz d))\/lk a=ad (.fz E d))->∃b,∃vs rest:V aV,El.cE (g.γ a)=ad b/\(∀o,f b o=W.cell? ⟨b,o,none⟩)/\W.heap[b]? =ad (.cells (vs++rest).toArray E (0,0))/\aW g d vs
variable{HF:FH}
def acX{d:Type}{R:d->V aV->Prop}{f:d->V C->Bool}{n:Y}(k:∀x a vs,f x a=ae->aW g a vs->R x vs)(m:∀x vs,R x vs->Z vs=n):∀(xs:V d){a:V C}{vs:V aV},FE f n a xs=ae->aW g a vs->∀i(h:i<Z xs),R xs[i] ((aA (i*n) vs).take n)
 |[],_,_,_,_,i,h=>by simp at h
 |x::xs,a,vs,hm,l,i,h=>by
  simp only[FE,cz]at hm;cases i with
  |zero=>simp only[sU,qu,vu];exact k _ _ _ hm.1<|l.take n
  |succ i=>
   have:=acX k m xs hm.2 (l.drop n) i et
   rw[qp,(GG:n+i*n=(i+1)*n)]at this
   simpa using this
def Ur(y:wD HF g W lk){T}{f:T.den->V C->Bool}(hf:∀x d vs,f x d=ae->aW g d vs->cZ HF T x vs){k}{xs}{v}(l:Jp lk T f k xs=ae)(o:c7 g k v):lZ (cZ HF T) T.n HF xs v:=by
 unfold Jp at l;split at l
 .rename_i A X;have e:A=T:=by simp only[lq,cz]at l;exact an' l.1
  subst e;have:=aoa (.sl A) X xs l;subst this;exact lZ.mono o y.le<|λx d=>cZ.mono y.le A x d
 .have:xs=[]:=List.isEmpty_iff.1 l;subst this;simp only[c7]at o;exact⟨none,0,o,aO _,az,.inl J⟩
 .rename_i B a q H;simp only[cz]at l;let ⟨⟨⟨K,L⟩,r⟩,m⟩:=l;have K:=lL K;have L:=c8 L;subst K;have m:∃E d,((∃sz,lk B=ad (.box E sz d))\/lk B=ad (.fz E d))/\FE f T.n (aA a d) xs=ae:=by
   split at m
   .rename_i E sz d p;exact⟨E,d,.inl ⟨sz,p⟩,m⟩
   .rename_i E d p;exact⟨E,d,.inr p,m⟩
   .cases m
  .let ⟨E,d,p,m⟩:=m;let ⟨b,vs,rest,t,w,hh,M⟩:=y.cE B E d p;have s:=acX (R:=cZ HF T) hf (λx vs h=>cZ.length T x vs h) xs m<|M.drop a;have P:∃k,v= .slice (ad ⟨b,a,none⟩) (Z xs) k/\Z xs<=k:=by
    cases H with
    |none=>
     let ⟨z,D,k,u,Q,G⟩:=o
     rw[u]at t
     simp only[El.cE,ar]at t
     subst t
     exact⟨k,by rw[z];exact Q,G⟩
    |some k=>
     let ⟨D,u,Q⟩:=o
     rw[t]at u
     cases u
     exact⟨k,Q,c8 r⟩
   let ⟨k,P,hc⟩:=P;refine⟨ad ⟨b,a,none⟩,k,P,hc,L,?_⟩;by_cases hx:xs=[]
   .exact .inl hx
   .refine .inr ⟨b,a,J,λi U=>⟨_,cZ.length T _ _<|s i U,s i U,λj I=>?_⟩⟩;rw[w];simp only[eL,Bd]at I;simp only[qk,tQ];rw[(O:a+i*T.n+j=a+(i*T.n+j))];simp only[DA,hh,vr];rw[DF O];exact cO O
 .cases l
def Us(o:wD HF g W lk){m}{i}{vs}(a:Jq lk m i=ae)(p:aW g i vs):q9 HF m vs:=by
 unfold Jq at a;split at a
 .rename_i b c;simp only[cz]at a;obtain⟨v,r,rfl,d,s,t,rfl,f,n⟩:=p;simp only[aW]at n;simp only[c7]at d;subst n d;rw[eq_of_beq a.1];refine⟨s,J,Ur (T:= .int .u32) o ?_ a.2 f⟩;intro x i vs k l;split at k
  .obtain⟨u,r,rfl,d,f⟩:=l;simp only[aW]at f;simp only[c7]at d;subst f d;rw[aU k];rfl
  .cases k
 .cases a
def aoc(m:wD HF g W lk):∀(T:ET)(x:T.den)(f:V C)(vs:V aV),wB lk T x f=ae->aW g f vs->cZ HF T x vs:=by
 intro T;induction T with
 |int k=>
  intro x f vs a d
  simp only[wB]at a
  split at a
  .obtain⟨u,r,rfl,l,i⟩:=d;simp only[aW]at i;simp only[c7]at l;simp only[cz,decide_eq_true_eq]at a;subst i l;rw[a.1,a.2];rfl
  .cases a
 |bool=>
  intro x f vs a d
  simp only[wB]at a
  split at a
  .obtain⟨u,r,rfl,l,i⟩:=d;simp only[aW]at i;simp only[c7]at l;subst i l;rw[eq_of_beq a];rfl
  .cases a
 |z=>intro x f vs a d;exact Us m a d
 |q=>
  intro x f vs a d
  simp only[wB,cz]at a
  exact⟨c 2 vs,aA 2 vs,(sI 2 vs).symm,Us m a.1<|d.take 2,Us m a.2<|d.drop 2⟩
 |sl T s=>
  intro x f vs a d
  simp only[wB]at a
  split at a
  .obtain⟨u,r,rfl,l,i⟩:=d;simp only[aW]at i;subst i;exact⟨u,J,Ur m s a l⟩
  .cases a
 |pr A B o p=>
  intro x f vs a d
  simp only[wB,cz]at a
  exact⟨c A.n vs,aA A.n vs,(sI _ vs).symm,o _ _ _ a.1<|d.take _,p _ _ _ a.2<|d.drop _⟩
def Ut(i:wD HF g W lk){k d}{v}(a:Ok lk k d=ae)(f:c7 g k v):c7 ⟨HF,jT⟩ d v:=by
 unfold Ok at a;split at a
 .rw[<-eq_of_beq a];exact f
 .simp only[cz,decide_eq_true_eq]at a;rw[<-a.1,<-a.2];exact f
 .exact Ur i (aoc i _) a f
 .trivial
 .cases a
def Uu(k:wD HF g W lk):∀{a f:V C}{vs:V aV},wC lk a f=ae->aW g a vs->aW ⟨HF,jT⟩ f vs
 |[],[],_,_,i=>i
 |o::a,d::f,_,hm,i=>by simp only[wC,cz]at hm;obtain⟨v,l,rfl,m,n⟩:=i;exact⟨v,l,J,Ut k hm.1 m,Uu k hm.2 n⟩
 |[],_::_,_,hm,_=>by simp[wC]at hm
 |_::_,[],_,hm,_=>by simp[wC]at hm
def acY(f:wD HF g W lk):∀{i k:V (Bool×V C)}{vs:V aV},FF lk i k=ae->fJ g i vs->fJ ⟨HF,jT⟩ k vs
 |[],[],_,_,l=>l
 | (n,cs)::i,(p,ds)::k,_,hm,l=>by
  simp only[FF,cz]at hm;let ⟨⟨m,hc⟩,ht⟩:=hm;have m:=eq_of_beq m;subst m;obtain⟨v,r,rfl,a,o⟩:=l;refine⟨v,r,J,?_,acY f ht o⟩;cases n with
  |true=>let ⟨us,e,a⟩:=a;exact⟨us,e,Uu f hc a⟩
  |false=>
   match cs,ds,hc,a with
   |[c],[d],hc,a=>simp only[wC,cz]at hc;exact Ut f hc.1 a
   |[c],[],hc,_=>simp[wC]at hc
   |[c],_::_::_,hc,_=>simp[wC]at hc
   |[],_,_,a=>exact a.elim
   |_::_::_,_,_,a=>exact a.elim
 |[],_::_,_,hm,_=>by simp[FF]at hm
 |_::_,[],_,hm,_=>by simp[FF]at hm
def acZ(d:wD HF g W lk){x y}{v}(a:CE lk x y=ae)(f:bu g x v):bu ⟨HF,jT⟩ y v:=by
 cases x<;>cases y<;>simp only[CE]at a<;>try cases a
 .exact Ut d a f
 .let ⟨vs,e,h⟩:=f;exact⟨vs,e,Uu d a h⟩
 .let ⟨vs,e,h⟩:=f;exact⟨vs,e,acY d a h⟩
end
def sd(a:Y->ax aG):V AV->V AV->Bool
 |[],[]=>ae
 |x::xs,y::d=>CE a x y&&sd a xs d
 |_,_=>ah
def ac0{f:Y->ax aG}{i:FH}{g:Gh}{W:World}(k:wD i g W f):∀{xs a:V AV}{vs:V aV},sd f xs a=ae->fw g xs vs->fw ⟨i,jT⟩ a vs
 |[],[],_,_,d=>d
 |x::xs,y::a,_,hm,d=>by simp only[sd,cz]at hm;obtain⟨v,l,rfl,m,n⟩:=d;exact⟨v,l,J,acZ k hm.1 m,ac0 k hm.2 n⟩
 |[],_::_,_,hm,_=>by simp[sd]at hm
 |_::_,[],_,hm,_=>by simp[sd]at hm
def ac1{d:Y->ax aG}:∀{xs a:V AV},sd d xs a=ae->Z a=Z xs
 |[],[],_=>rfl
 |x::xs,y::a,hm=>by simp only[sd,cz]at hm;simp[ac1 hm.2]
 |[],_::_,hm=>by simp[sd]at hm
 |_::_,[],hm=>by simp[sd]at hm
section
variable{P:bW}
def ac2{g}:∀(vs:V AV)(a:V aV)(i:Y)(all:V aV),Z a=Z vs->(∀f,f<Z a->all[i+f]? =a[f]?)->(∀t v,S t (dG i vs)=ad v->bu g v (all.toArray.getD t undef))->fw g vs a:=by
 intro vs;induction vs with
 |nil=>intro a i all hl _ _;exact eT vw
 |cons x vs A=>
  intro a i all hl d o
  cases a with
  |nil=>simp at hl
  |cons u a=>
   refine⟨u,a,J,?_,A a (i+1) all vw ?_ ?_⟩
   .have B:=o i x (by simp[dG,S]);have p:=d 0 az;simp only[jy,m9]at p;simpa[p]using B
   .intro f hj;have:=d (f+1) ot;rw[(O:i+1+f=i+(f+1))];simpa using this
   .intro t v s;refine o t v ?_;have m:∀(l:V AV)(k:Y),i<k->∀v,S i (dG k l)=ad v->False:=by
     intro l;induction l with
     |nil=>intro k _ v h;simp[dG,S]at h
     |cons y l n=>
      intro k C v h
      simp only[dG,S]at h
      split at h
      .omega
      .exact n (k+1) O v h
    simp only[dG,S];split
    .rename_i e;subst e;exact(m vs (i+1) O v s).elim
    .exact s
def FG:aG->aG
 | .box a _ cs=> .fz a cs
 |d=>d
def ac3 a:(FG a).ak=a.ak:=by cases a<;>rfl
open Classical in
def aod{f}{vs L}{bf}(dj:r P f L bf)(hm:cR L=[]){fm Q}(uX:V Y)(hD:∀d,S d Q=if d∈uX then(S d fm).map FG else S d fm){lk:Y->ax aG}(pn:∀d i,lk d=ad i->d∈uX/\S d fm=ad i)(ac4:sd lk vs L=ae) k:CX P f vs fm k bf Q k:=by
 refine⟨dj.call,aO _,?_⟩;intro F g W us hn mc A;have BV:fw g vs us:=ac2 vs us 0 us mc (λj hj=>az) (λt v ht=>A.eY t v<|by simp[St.kn,ht]);have qh:∀d,St.kn ⟨dG 0 vs,fm,0,[]⟩ (.m d)=(S d fm).map .b:=λ_=>rfl
 let B:Y->Prop:=λi=>∃d E sz U,d∈uX/\S d fm=ad (.box E sz U)/\cE (g.γ d)=ad i
 let X:FH:=λi o=>if B i then W.cell? ⟨i,o,none⟩else g.H i o
 have hBz:∀i,B i->(∀o,g.H i o=none)/\F.N i:=by rintro i ⟨d,E,sz,U,_,hl,M⟩;let ⟨b',ws,rest,z,e2,e3,e4,e5,_⟩:=A.cX d (.box E sz U) Af;rw[M]at z;cases z;exact⟨e5,e4⟩
 have Z:cL g.H X:=by
  intro i o v hv;by_cases e:B i
  .rw[(hBz i e).1]at hv;cases hv
  .simp only[X,e,bN];exact hv
 have ok:wD X g W lk:=by
  refine⟨Z,λd E U hl=>?_⟩;rcases hl with⟨sz,hl⟩|hl
  .let ⟨p,hl⟩:=pn d _ hl;let ⟨i,ws,rest,z,e2,e3,e4,e5,_⟩:=A.cX d (.box E sz U) Af;have hB:B i:=⟨d,E,sz,U,p,hl,z⟩;exact⟨i,ws,rest,z,λo=>by simp only[X,hB,cj],e2,e3⟩
  .let ⟨p,hl⟩:=pn d _ hl;let ⟨i,ws,rest,z,e2,e3,e4,e5⟩:=A.cX d (.fz E U) Af;have G:¬B i:=by rintro⟨q,E',sz,cs',ac6,K,I⟩;have:=A.inj d q (.fz E U) (.box E' sz cs') i Af (by rw[qh,K];rfl) z I;subst this;rw[hl]at K;cases K
   exact⟨i,ws,rest,z,λo=>by simp only[X,G,bN,e5];simp[DA,e2],e2,e3⟩
 have O:=ac0 ok ac4 BV;have rE:Sub X W:=by
  intro i o v hv;by_cases e:B i
  .simp only[X,e,cj]at hv;exact hv
  .simp only[X,e,bN]at hv;exact A.sub i o v hv
 have hlen:=ac1 ac4;have h2:bx F (·<k) (St.kn ⟨dG 0 L,Q,0,[]⟩) ⟨X,g.γ⟩ W (nl us):=by
  have hM:∀d i,St.kn ⟨dG 0 L,Q,0,[]⟩ (.m d)=ad (.b i)->∃l,S d fm=ad l/\((d∉uX/\i=l)\/(d∈uX/\i=FG l)):=by
   intro d i M;have e:St.kn ⟨dG 0 L,Q,0,[]⟩ (.m d)=(S d Q).map .b:=rfl;rw[e,hD]at M;split at M
   .rename_i hd;cases hl:S d fm with
    |none=>rw[hl]at M;cases M
    |some l=>rw[hl]at M;cases M;exact⟨l,J,.inr ⟨hd,J⟩⟩
   .rename_i lD;simp only[cG]at M;let ⟨x,w,he⟩:=M;cases he;exact⟨_,w,.inl ⟨lD,J⟩⟩
  have c:∀d i,St.kn ⟨dG 0 L,Q,0,[]⟩ (.m d)=ad (.b i)->∃l,S d fm=ad l/\i.ak=l.ak:=by
   intro d i M;let ⟨l,hl,dj⟩:=hM d i M;refine⟨l,hl,?_⟩;rcases dj with⟨_,rfl⟩|⟨_,rfl⟩
   .rfl
   .exact ac3 l
  refine⟨A.size,A.defers,?_,?_,?_,?_,?_,rE,A.below,A.le.trans Z,?_,A.gK⟩
  .intro t v ht;simp only[St.kn,cG]at ht;let ⟨x,w,he⟩:=ht;cases he;let ⟨_,u,hu,hr,c⟩:=nP L us 0 O t v w;have wR:us[t]? =ad u:=w8;simp only[nl,nM,vr,wR,rh];refine hr.iL ?_ (cL.refl _) g.γ;refine QK.2<|λd p=>?_;have:=c d p;rw[hm]at this;cases this
  .intro d i M;let ⟨l,hl,aof⟩:=hM d i M;have R:St.kn ⟨dG 0 vs,fm,0,[]⟩ (.m d)=ad (.b l):=Af;have yX:=A.cX d l R;have C:(∀E sz U,l= .box E sz U->d∉uX)->fV F.N ⟨X,g.γ⟩ W d l:=by
    intro nj;refine yX.xl (known:=(·<k)) ⟨Z,λ_ _=>rfl⟩ (A.ew d _ R) (λj hj=>A.ak _ _ R j hj)<|λkk lK=>⟨J,λo=>?_⟩;have G:¬B kk:=by rintro⟨q,E,sz,U,ac6,K,I⟩;have:=A.inj d q l (.box E sz U) kk R (by rw[qh,K];rfl) lK I;subst this;rw[hl]at K;cases K;exact nj E sz U J ac6
    simp only[X,G,bN]
   rcases aof with⟨lD,rfl⟩|⟨hd,rfl⟩
   .exact C<|λ_ _ _ _=>lD
   .cases l with
    |box E sz U=>
     let ⟨i,ws,rest,z,e2,e3,e4,e5,_⟩:=yX
     have hB:B i:=⟨d,E,sz,U,hd,hl,z⟩
     exact⟨i,ws,rest,z,e2,aW.mono (known:=(·<k)) (g:=g) (g':=⟨X,g.γ⟩) ⟨Z,λ_ _=>rfl⟩ (λj hj=>A.ak _ _ R j hj) e3,e4,λo=>by simp only[X,hB,cj];simp[DA,e2]⟩
    |vec E T xs=>exact C<|λ_ _ _ e=>wE
    |hY f a i=>exact C<|λ_ _ _ e=>wE
    |fz E U=>exact C<|λ_ _ _ e=>wE
    |mp ka va xs=>exact C<|λ_ _ _ e=>wE
    |it m n seen=>exact C<|λ_ _ _ e=>wE
  .intro d q i b' kk M I h1 h2;let ⟨l,hl,_⟩:=hM d i M;let ⟨b1,K,_⟩:=hM q b' I;exact A.inj d q l b1 kk Af (by rw[qh,K];rfl) h1 h2
  .intro key x w d p;cases key with
   |m j=>
    cases x with
    |b b'=>
     let ⟨l,hl,nk⟩:=c j b' w
     have p:d∈b'.ak:=p
     rw[nk]at p
     exact A.ak (.m j) (.b l) Af d p
    |v v'=>simp only[St.kn,cG]at w;let ⟨_,_,he⟩:=w;cases he
   |s t=>
    simp only[St.kn,cG]at w
    let ⟨y,hy,he⟩:=w
    subst he
    let ⟨_,_,_,_,h6⟩:=nP L us 0 O t y hy
    have:=h6 d p
    rw[hm]at this
    cases this
  .intro d x w;cases x with
   |b b'=>let ⟨l,hl,_⟩:=c d b' w;exact A.ew d (.b l) Af
   |v v'=>simp only[St.kn,cG]at w;let ⟨_,_,he⟩:=w;cases he
  .intro i o M nj;have G:¬B i:=by
    intro e;rcases(hBz i e).2 with h1|h1
    .omega
    .exact nj h1
   simp only[X,G,bN];exact A.fresh i o M nj
 exact(ajP dj hm Q k).spec F ⟨X,g.γ⟩ W us (by rw[hlen];exact hn) (by rw[hlen];exact mc) h2
end
inductive Rc where
 |no
 |dv (t:Tr) (ms:Ms) (k:Y) (a:V Y)
 |gP (d:Y) (t:Tr) (ms:Ms) (k:Y) (a:V Y)
 |ret (t:Tr) (ms:Ms) (k:Y) (a:V Y)
def fb(n:Y):Y:=if n<=16 then 2 else if n<=64 then 3 else if n<=256 then 4 else if n<=1024 then 5 else 6
noncomputable def nB(dep:Y)(vs:V AV):Y->Tr->Tr:=lp (motive:=λ_=>Y->Tr->Tr) (λ_ t=>t)
 (λv _ a i t=>a (i+1)<|jK (de dep i) v t) vs
noncomputable def Jr(d:TT)(dep n:Y)(t:Tr)(f:Ms):ResultVar->ax AV
 | .tmp a=>(match dy a n with
  |true=>jA (de dep a) t
  |false=>none)
 | .cell a ty=>(match dy a n with
  |true=>(match jA (de dep a) t with
   |some (.c<|.P id off)=>(match bD id f,qj d ty with
    |some (.box _ _ cs),ad (sz,g)=>nJ cs off sz g
    |_,_=>none)
   |_=>none)
  |false=>none)
noncomputable def Ol(a:TT)(dep n:Y)(t:Tr)(d:Ms):V ResultVar->ax (V<|Bool×V C)
 |[]=>ad []
 |x::xs=>(match Jr a dep n t d x with
  |some v=>(match rB v,Ol a dep n t d xs with
   |some s,ad f=>ad<|s::f
   |_,_=>none)
  |none=>none)
noncomputable def FI(a:TT)(dep n:Y)(t:Tr)(d:Ms):V ResultVar->ax AV
 |[x]=>Jr a dep n t d x
 |xs=>(match Ol a dep n t d xs with
  |some f=>ad<|.t f
  |none=>none)
noncomputable def x9:Y->Mem->V Y->Mem->Mem
 |0,_,_,acc=>acc
 |_+1,_,[],acc=>acc
 |f+1,own,id::todo,acc=>match mX id acc with
  |some _=>x9 f own todo acc
  |none=>(match mX id own with
   |some a=>x9 f own (a.ak++todo)<|(id,a)::acc
   |none=>x9 f own todo acc)
noncomputable def CF(k:Y)(a:Ms):V Y->Bool
 |[]=>ae
 |id::d=>(match dP k id with
  |true=>CF k a d
  |false=>(match bD id a with
   |some _=>CF k a d
   |none=>ah))
noncomputable def Om(k:Y)(a:Ms):Mem->Bool
 |[]=>ae
 | (id,d)::f=>(match dP k id with
  |true=>(match CF k a d.ak with
   |true=>Om k a f
   |false=>ah)
  |false=>ah)
noncomputable def FJ(k:Y)(d a:Ms):V Y->Bool
 |[]=>ae
 |id::f=>(match bD id a with
  |some g=>(match CF k d g.ak with
   |true=>FJ k d a f
   |false=>ah)
  |none=>FJ k d a f)
noncomputable def Uv(k:Y)(l:Mem):Bool:=lp (motive:=λ_=>Bool) ae (λh _ a=>Ab (motive:=λ_=>Bool) ah a<|dP k h.1) l
def Ag(a:Mem):Ms->Ms
 |m::d=>(a++m)::d
 |[]=>[a]
noncomputable def Js(a:Ms):V Y->V Y
 |[]=>[]
 |id::d=>(match bD id a with
  |some f=>f.ak++Js a d
  |none=>Js a d)
noncomputable def leave(l:TT)(g:Func)(dep:Y)(d:Ms)(k:Y)(t:Tr)(a:Ms)(m:Y)(f:V Y):Cr:=match FI l dep g.ntmps t a g.results.toList with
 |some r=>(match a with
  |own::rest=>(match x9 1000 own (r.ak++Js rest f) []with
   |i=>(match CF k d r.ak&&Om k d i&&FJ k d rest f&&Uv k own with
    |true=> .ok r (Ag i rest) m f
    |false=> .no))
  |[]=> .no)
 |none=> .no
noncomputable def Jt(a:Ms):Y->V Y->V Y->V Y
 |0,_,acc=>acc
 |_+1,[],acc=>acc
 |f+1,id::todo,acc=>match acc.any (g6 id)with
  |true=>Jt a f todo acc
  |false=>(match bD id a with
   |some d=>Jt a f (d.ak++todo)<|id::acc
   |none=>Jt a f todo acc)
noncomputable def lkS(d:V Y)(f:Ms)(a:Y):ax aG:=match d.any (g6 a)with
 |true=>bD a f
 |false=>none
noncomputable def wF:V Y->Ms->Ms
 |[],ms=>ms
 |id::a,ms=>(match bD id ms with
  |some (.box d _ cs)=>wF a<|qX id (.fz d cs) ms
  |_=>wF a ms)
abbrev ya:=Y->Y->Y->Code->Tr->Ms->Y->V Y->Rc
noncomputable def tA(P:bW)(m:TT)(i:kd->V AV->Ms->ax (V AV×AV))(body:ya):mY:=λf vs a k=>
 match i f vs a with
 |some (g,r)=>(match Jt a 200 (cR vs) []with
  |D=>(match sd (lkS D a) vs g&&(cR g).isEmpty&&FJ k a (wF D a) D with
   |true=> .ok r (wF D a) k D
   |false=> .no))
 |none=>(match P.funcs[f]? with
  |some fn=>(match fn.body with
   |some c=>(match fn.name != "runtime.NumGoroutine" &&dP (Z vs) fn.ntmps&&dP fn.ntmps 4096 with
    |true=>(match body (fb fn.ntmps) fn.ntmps k c (nB (fb fn.ntmps) vs 0 .e) ([]::a) k []with
     | .dv t d l wl=>leave m fn (fb fn.ntmps) a k t d l wl
     | .ret t d l wl=>leave m fn (fb fn.ntmps) a k t d l wl
     |_=> .no)
    |false=> .no)
   |none=> .no)
  |none=> .no)
noncomputable def aog(f:ya)(dep n g:Y)(x y:Code)(t:Tr)(i:Ms)(k:Y)(l:V Y):Rc:=match f dep n g x t i k l with
 | .dv t1 a m d=>f dep n g y t1 a m d
 |r=>r
noncomputable def aoh(a:ya)(dep n d:Y)(i:eI)(x y:Code)(t:Tr)(f:Ms)(k:Y)(g:V Y):Rc:=match iR dep n i with
 |some p=>(match jZ t p with
  |some (.c<|.B b)=>(match b with
   |true=>a dep n d x t f k g
   |false=>a dep n d y t f k g)
  |_=> .no)
 |none=> .no
noncomputable def aoi(i:ya)(dep n l:Y)(m:Y)(x:Code)(t:Tr)(o:Ms)(k:Y)(p:V Y):Rc:=match i dep n l x t o k p with
 | .gP a t1 d g f=>(match g6 a m with
  |true=> .dv t1 d g f
  |false=> .gP a t1 d g f)
 |r=>r
noncomputable def aoj(f:ya)(dep n g:Y)(x:Code)(t:Tr)(i:Ms)(k:Y)(l:V Y):Rc:=match f dep n g x t i k l with
 | .dv t1 a m d=>f dep n g (.loop x) t1 a m d
 |r=>r
def rT:Rs->Rc
 | .ok t1 a f d _=> .dv t1 a f d
 | .no=> .no
def rD(ps:V (Y×Y)):Rd->Rc
 | .ok t1 a f d fs=>(match Fz fs.reverse ps with
  |true=> .dv t1 a f d
  |false=> .no)
 | .no=> .no
noncomputable def aok(a:mY)(g:TT)(dep n i:Y)(f:V a4)(d:Bool)(t:Tr)(l:Ms)(k:Y)(m:V Y):Rc:=match Oj dep n f d with
 |some (gs,none)=>rT<|wz a g n i gs t l k m
 |some (gs,ad ps)=>rD ps<|x7 a g n i gs t l k m []
 |none=> .no
noncomputable def aol(P:bW)(g:TT)(f:kd->V AV->Ms->ax (V AV×AV))(a:ya)(dep n d:Y):Code->Tr->Ms->Y->V Y->Rc
 | .skip=> .dv
 | .exit id=> .gP id
 | .ret=> .ret
 | .seq x y=>aog a dep n d x y
 | .cond i x y=>aoh a dep n d i x y
 | .block id x=>aoi a dep n d id x
 | .loop x=>aoj a dep n d x
 | .region _ ops draw=>aok (tA P g f a) g dep n d ops.toList draw
 |_=>λ_ _ _ _=> .no
noncomputable def iS(P:bW)(f:TT)(d:kd->V AV->Ms->ax (V AV×AV))(a:Y):ya:=Od (motive:=λ_=>ya)
 (λ_ _ _ _ _ _ _ _=> .no) (λ_ g=>aol P f d g) a
def se:Ft->Y->Prop
 | .n,_=>False
 | .m rd _,id=>id∈rd
 | .c k _ _,id=>id<k
def nC:Ft->Y->Prop
 | .n,_=>False
 | .m _ wr,id=>id∈wr
 | .c k a wl,id=>(id∈wl/\id<k)\/(k<=id/\id<a)
def Ah(d g:Ks)(f:Ft):Prop:=(∀a∈d.1,match a with| .s t=>Key.s t∈g.1| .m id=>se f id)/\∀a∈d.2,match a with| .s t=>Key.s t∈g.2| .m id=>nC f id
def fv(d:Ms)(k:Y):Prop:=∀a b,bD a d=ad b->a<k/\∀j∈b.ak,j<k
def dT(dep n:Y)(t:Tr)(k:Y):Prop:=∀j v,j<n->jA (de dep j) t=ad v->∀a∈v.ak,a<k
def mn(d a:Ms):Prop:=∀i j b,1<=i->bD j (aA i a)=ad b->∃f,bD j (aA i d)=ad f
def mn.refl ms:mn ms ms:=λ_ _ b _ h=>⟨b,h⟩
def mn.trans{a d f}(l:mn a d)(g:mn d f):mn a f:=λi j x k m=>by let ⟨y,n⟩:=g i j x k m;exact l i j y k n
def Uw id d a:mn a (qX id d a):=by
 intro i j x _ hx;have f:∀(a:Ms)(i:Y)(x:aG),bD j (aA i<|qX id d a)=ad x->∃y,bD j (aA i a)=ad y:=by
  intro a;induction a with
  |nil=>intro i x hx;exact⟨x,hx⟩
  |cons m r g=>
   intro i x hx
   have k:qX id d (m::r)=match mX id m with|some _=>Jg id d m::r|none=>m::qX id d r:=rfl
   cases i with
   |zero=>
    simp only[qu]at hx⊢
    rw[Fv]at hx
    split at hx
    .rename_i y l;split at hx
     .rename_i e;subst e;exact⟨y,l⟩
     .exact⟨x,hx⟩
    .exact⟨x,hx⟩
   |succ i=>
    rw[k]at hx
    split at hx
    .exact⟨x,D8⟩
    .exact g i x D8
 exact f a i x hx
def aom id a:mn a (uU id a):=by
 intro i j x _ d;have f:∀(a:Ms)(i:Y),aA i (uU id a)=uU id (aA i a):=by
  intro a;induction a with
  |nil=>intro i;simp[uU]
  |cons m r g=>intro i;cases i with
   |zero=>rfl
   |succ i=>simpa[uU]using g i
 rw[f,Cx]at d;split at d
 .cases d
 .exact⟨x,d⟩
def aon k d ms:mn ms (Ad k d ms):=by
 intro i j x g a;obtain⟨i,rfl⟩:∃f,i=f+1:=⟨i-1,O⟩;cases ms with
 |nil=>exact⟨x,by simpa[Ad]using a⟩
 |cons m r=>exact⟨x,by simpa[Ad]using a⟩
structure wG(P:bW)(i:mY):Prop where
 ok:∀{f vs ms k r d g wl},i f vs ms k= .ok r d g wl->fv ms k->(∀a∈cR vs,a<k)->
  CX P f vs ms.flatten k r d.flatten g/\(∀a∈r.ak,k<=a\/∃b,bD a ms=ad b)/\(∀a b,bD a d=ad b->bD a ms=ad b\/∀l∈b.ak,k<=l\/∃b,bD l ms=ad b)/\
   (∀a,a<k->a∉wl->bD a d=bD a ms)/\(∀a b,bD a d=ad b->k<=a\/∃m,bD a ms=ad m)/\fv d g/\(∀a∈r.ak,a<g)/\mn ms d
section
variable{P:bW}{tt:TT}{dep n:Y}{t:Tr}{ms:Ms}{k:Y}
def fv.le{a}(d:fv ms k)(f:k<=a):fv ms a:=λg b i=>⟨iI (d g b i).1 f,λj l=>iI ((d g b i).2 j l) f⟩
def dT.le{d}(f:dT dep n t k)(g:k<=d):dT dep n t d:=λj v i l m a=>iI (f j v i l m a) g
def dT.set(f:dT dep n t k)(o:n<=4^dep){d}(p:d<n){v}(g:∀i∈v.ak,i<k):dT dep n (jK (de dep d) v t) k:=by
 intro j u l a;by_cases e:d=j
 .subst e;rw[Jf]at a;cases a;exact g
 .rw[Fl _ _ _ _ Fp (λm=>e<|Cw dep O O m)]at a;exact f j u l a
def dT.del(f:dT dep n t k)(l:n<=4^dep){d}(m:d<n):dT dep n (Fk (de dep d) t) k:=by
 intro j u g a;by_cases e:d=j
 .subst e;rw[Ud]at a;cases a
 .rw[Ue _ _ _ Fp (λi=>e<|Cw dep O O i)]at a;exact f j u g a
def Ai{a d}(f:dy a d=ae):a<d:=by simpa[s7]using f
def ls{m:Mem}{x}{p:Pd}(a:iR dep n x=ad p){v}(d:jZ t p=ad v):(bh dep n t m).ev x=ad v:=by
 cases x with
 |tmp j=>
  simp only[iR]at a
  split at a
  .rename_i i;cases a;simp only[St.ev,bh,tx,b<|Ai i];exact d
  .cases a
 |const u=>simp only[iR,ar]at a;subst a;exact d
 |func f=>simp only[iR,ar]at a;subst a;exact d
 |global g=>simp[iR]at a
def On{m:Mem}:∀{xs:V eI}{ps:V Pd},x6 dep n xs=ad ps->∀{vs:V AV},x5 t ps=ad vs->jU (bh dep n t m) xs=ad vs
 |[],ps,a,vs,he=>by simp only[x6,ar]at a;subst a;exact he
 |x::xs,ps,a,vs,he=>by
  simp only[x6]at a;split at a
  .rename_i p f g i;cases a;have l:x5 t (p::f)=match jZ t p with
    |some v=>(match x5 t f with|some vs=>ad (v::vs)|none=>none)
    |none=>none:=rfl
   rw[l]at he;split at he
   .rename_i v o;split at he
    .rename_i s d;cases he;simp only[jU,ls g o,On i d]
    .cases he
   .cases he
  .cases a
def aoo{m:Mem}(o:dT dep n t k){x}{p:Pd}(a:iR dep n x=ad p){v}(i:jZ t p=ad v):∀l∈v.ak,l<k:=by
 cases x with
 |tmp j=>
  simp only[iR]at a
  split at a
  .rename_i s;cases a;exact o j v (Ai s) i
  .cases a
 |const u=>
  simp only[iR,ar]at a;subst a
  have:Dm u=v:=by simpa[jZ]using i
  subst this
  intro l d
  cases u<;>simp[Dm,AV.ak,C.ak]at d
 |func f=>
  simp only[iR,ar]at a;subst a
  have:AV.c (.V<|.func (.func f) #[] #[])=v:=by simpa[jZ]using i
  subst this
  intro l d
  simp[AV.ak,C.ak]at d
 |global g=>simp[iR]at a
def Oo(i:dT dep n t k):∀{xs:V eI}{ps:V Pd},x6 dep n xs=ad ps->∀{vs:V AV},x5 t ps=ad vs->∀f∈cR vs,f<k
 |[],ps,d,vs,he=>by
  simp only[x6,ar]at d;subst d;have:vs=[]:=by simpa[x5]using he.symm
  subst this;simp[cR]
 |x::xs,ps,d,vs,he=>by
  simp only[x6]at d;split at d
  .rename_i p l o s;cases d;have e:x5 t (p::l)=match jZ t p with
    |some v=>(match x5 t l with|some vs=>ad (v::vs)|none=>none)
    |none=>none:=rfl
   rw[e]at he;split at he
   .rename_i v u;split at he
    .rename_i y g;cases he;intro f a;simp only[cR,bg]at a;rcases a with a|a
     .exact aoo (m:=[]) i o u f a
     .exact Oo i s g f a
    .cases he
   .cases he
  .cases d
def CG(f:cq P tt=ae){o:a4}(g:o.guard=none){d:Y}(l:o.dst=ad d)(a:d<n)(u:n<=4^dep){m:Mem}{v}{p}(x:tO tt (bh dep n t m) o.op=ad (v,p))(y:p.h):
  gH P n #[o] 0 (bh dep n t m) (bh dep n (jK (de dep d) v t) m) k (k+1) (bK o.op.operands.toList,[.s d]):=
 gH.mG (KC f (ops:= #[o]) (i:=0) J g l a x y k) (rv _ _) (Fq dep n t m d v u a) Bp mH
def ac8(f:cq P tt=ae){o:a4}(g:o.guard=none){d:Y}(l:o.dst=ad d)(a:d<n)(u:n<=4^dep){m:Mem}{v}{p}(x:D1 tt (bh dep n t m) o.op=ad (v,p))(y:p.h):
  gH P n #[o] 0 (bh dep n t m) (bh dep n (jK (de dep d) v t) m) k (k+1) (bK o.op.operands.toList,[.s d]):=
 gH.mG (XW f (ops:= #[o]) (i:=0) J g l a x y k) (rv _ _) (Fq dep n t m d v u a) Bp mH
def aop(f:cq P tt=ae){o:a4}(g:o.guard=none){d:Y}(l:o.dst=ad d)(a:d<n)(u:n<=4^dep){m:Mem}{v}{p}(x:vP tt (bh dep n t m) o.op=ad (v,p))(y:p.h):
  gH P n #[o] 0 (bh dep n t m) (bh dep n (jK (de dep d) v t) m) k (k+1) (bK o.op.operands.toList,[.s d]):=
 gH.mG (Ro f (ops:= #[o]) (i:=0) J g l a x y k) (rv _ _) (Fq dep n t m d v u a) Bp mH
def aoq(A:cq P tt=ae){o:a4}(hg:o.guard=none){d:Y}(hd:o.dst=ad d)(l:d<n)(hn:n<=4^dep){B}{x}(H:o.op= .load B x){v u}{g}(hx:(bh dep n t ms.flatten).ev x=ad v)(a:Um tt ms B v=ad (u,g)):
  gH P n #[o] 0 (bh dep n t ms.flatten) (bh dep n (jK (de dep d) u t) ms.flatten) k (k+1) (bK [x]++cV g,[.s d]):=by
 have X:GM tt (bh dep n t ms.flatten) B v=ad (u,.t,g):=by
  unfold Um at a;unfold GM;split at a
  .cases a
  .rename_i sz c C K;have f:sz≠0:=C;simp only[K];split at a
   .rename_i L M;have e:S L (bh dep n t ms.flatten).mem=bD L ms:=jB L ms;simp only[e];split at a
    .rename_i E j b Q;simp only[Q];split at a
     .rename_i y m;cases a;simp only[Ul m (λe=>absurd e f)]
     .cases a
    .rename_i E b Q;simp only[Q];split at a
     .rename_i y m;cases a;simp only[Ul m (λe=>absurd e f)]
     .cases a
    .cases a
   .rename_i T e M;split at a
    .rename_i y m;cases a;simp only[Ul m (λe=>absurd e f)]
    .cases a
   .cases a
  .cases a
 refine gH.mG (Xf A (ops:= #[o]) (i:=0) J hg hd l H hx X aX k) ?_ (Fq dep n t ms.flatten d u hn l) ?_ mH
 .intro kx U;rcases bg.1 U with h|h
  .exact eD _ _ kx h
  .exact kr _ _ kx h
 .intro p W;simp only[dI,fM,bg]at W⊢;rcases W with h|h
  .exact .inl<|eO (bh dep n t ms.flatten) [x] p KN
  .exact .inr<|ku _ _ p h
def aor(H:cq P tt=ae){o}(hg:o.guard=none)(hd:o.dst=none){L:TypeId}{x y}(M:o.op= .store L x y){v Q}{f}{u}{p}(T:(bh dep n t ms.flatten).ev x=ad v)(hy:(bh dep n t ms.flatten).ev y=ad Q)(a:Un tt ms L v Q=ad (f,u,p)):
  gH P n #[o] 0 (bh dep n t ms.flatten) (bh dep n t (qX f u ms).flatten) k (k+1) (bK [x,y]++cV [f],[.m f])/\(∃s,bD f ms=ad s/\∀d∈u.ak,d∈s.ak\/d∈bV p):=by
 have C:GP tt (bh dep n t ms.flatten) L v Q=ad (f,u)/\∃s,bD f ms=ad s/\∀d∈u.ak,d∈s.ak\/d∈bV p:=by
  unfold Un at a;unfold GP;split at a
  .rename_i sz D g A c K q;simp only[K,q];have e:S g (bh dep n t ms.flatten).mem=bD g ms:=jB g ms;simp only[e];unfold acF at a;split at a
   .rename_i E F X r;split at a
    .rename_i l;simp only[cz]at l;split at a
     .rename_i x T;cases a;obtain⟨G,rfl⟩:=acD p A X x T;have B:Z p=sz:=lL l.1;simp only[r];rw[b ⟨B,O,acE l.2⟩];exact⟨J,_,J,λd z=>GQ X p A d z⟩
     .cases a
    .cases a
   .cases a
  .cases a
 refine⟨?_,C.2⟩
 let ⟨C,s,U,_⟩:=C
 refine gH.mG (Xi H (ops:= #[o]) (i:=0) J hg hd M T hy C k) ?_ ?_ ?_ mH
 .intro kx W;rcases bg.1 W with h|h
  .rcases bg.1 h with h|h
   .exact eD _ _ kx h
   .exact eD _ _ kx h
  .exact kr _ _ kx h
 .refine acp dep n t ms.flatten _ _ (λd=>?_)<|λd=>yF;rw[jB,Fv,U];simp only[bs,aE,Key.m.injEq];by_cases e:f=d
  .simp[e]
  .simp[e,bh,St.kn,jB]
 .exact Bm
end
def Aj:∀{l:V eI}{a:Key},a∈bK l->∃g,a= .s g
 |[],a,d=>by simp[bK]at d
 | .tmp g::f,a,d=>by simp only[bK,b9]at d;exact d.elim (λi=>⟨g,i⟩) Aj
 | .const _::f,a,d=>Aj (l:=f) (by simpa[bK]using d)
 | .func _::f,a,d=>Aj (l:=f) (by simpa[bK]using d)
 | .global _::f,a,d=>Aj (l:=f) (by simpa[bK]using d)
def FK{d:Y}:∀{l:V eI},d∈slotsOf l↔Key.s d∈bK l
 |[]=>by simp[slotsOf,bK]
 | .tmp i::a=>by simp[slotsOf,bK,FK (l:=a)]
 | .const _::a=>by simp[slotsOf,bK,FK (l:=a)]
 | .func _::a=>by simp[slotsOf,bK,FK (l:=a)]
 | .global _::a=>by simp[slotsOf,bK,FK (l:=a)]
section
variable{P:bW}{tt:TT}{dep n:Y}{t:Tr}{ms:Ms}{k:Y}
def ac9:∀{l:V Y}{d:V (Y×V D4)},FA dep n l=ad d->∀x∈d,x.2=de dep x.1/\x.1<n/\x.1∈l
 |[],d,a,x,hx=>by simp only[FA,ar]at a;subst a;cases hx
 |o::p,d,a,x,hx=>by
  simp only[FA]at a;split at a
  .rename_i l f g;cases a;rcases b9.1 hx with rfl|hx
   .exact⟨J,Ai f,az⟩
   .let ⟨i,h2,m⟩:=ac9 g x hx;exact⟨i,h2,by simp[m]⟩
  .cases a
def ac':∀{sl:V (Y×V D4)},(∀x∈sl,x.2=de dep x.1/\x.1<n)->∀{j:Y}{v:AV},S j (n8 sl t)=ad v->j<n/\jA (de dep j) t=ad v
 |[],_,j,v,a=>by simp[n8,S]at a
 |x::d,f,j,v,a=>by
  have i:n8 (x::d) t=match jA x.2 t with|some v=>(x.1,v)::n8 d t|none=>n8 d t:=rfl
  rw[i]at a;let ⟨l,h2⟩:=f x az;have g:=ac' (sl:=d) (λy hy=>f y uH) (j:=j) (v:=v);split at a
  .rename_i u m;simp only[S]at a;split at a
   .rename_i o;cases a;subst o;exact⟨h2,by rw[<-l];exact m⟩
   .exact g a
  .exact g a
def Ux:∀{g:V Y}{f:Y}{d:aG},S f (tz g ms)=ad d->bD f ms=ad d
 |[],f,d,a=>by simp[tz,S]at a
 |i::l,f,d,a=>by
  have m:tz (i::l) ms=match bD i ms with|some d=>(i,d)::tz l ms|none=>tz l ms:=rfl
  rw[m]at a;split at a
  .rename_i u o;simp only[S]at a;split at a
   .rename_i p;cases a;subst p;exact o
   .exact Ux a
  .exact Ux a
def CH{d:Y}:∀{l:V Key},d∈mK l↔Key.m d∈l
 |[]=>by simp[mK]
 | .m f::a=>by simp[mK,CH (l:=a)]
 | .s f::a=>by simp[mK,CH (l:=a)]
def Uy:∀{l:V Key},wS none l=ae->∀a,Key.s a∉l
 |[],_,a=>by simp
 | .m i::f,d,a=>by simp only[wS]at d;simpa using Uy d a
 | .s i::f,d,a=>by simp[wS]at d
def Oq{d:Y}:∀{l:V Key},wS (ad d) l=ae->∀a,Key.s a∈l->a=d
 |[],_,a,hj=>by simp at hj
 | .m i::g,f,a,hj=>by simp only[wS]at f;exact Oq f a ot
 | .s i::g,f,a,hj=>by
  simp only[wS]at f;split at f
  .rename_i o;rcases b9.1 hj with p|hj
   .cases p;exact(lL o).symm
   .exact Oq f a hj
  .cases f
def Ot{a:Y}:∀{l:V Y},CA a l=ae↔a∈l
 |[]=>by simp[CA]
 |x::g=>by
  simp only[CA];cases f:g6 x a with
  |true=>simp[(lL f).symm]
  |false=>
   have d:a≠x:=by intro e;subst e;simp[Jh]at f
   simp[Ot (l:=g),d]
def Ou{f:V Y}:∀{l:V Key},rS f l=ae->∀a,Key.s a∈l->a∈f
 |[],_,a,hj=>by simp at hj
 | .m i::g,d,a,hj=>by simp only[rS]at d;exact Ou d a ot
 | .s i::g,d,a,hj=>by
  simp only[rS]at d;split at d
  .rename_i o;rcases b9.1 hj with p|hj
   .cases p;exact Ot.1 o
   .exact Ou d a hj
  .cases d
def Uz{f g}{i}{d}(m:d<f)(a:d∉Cz f g i):d∉i/\d≠g:=by
 unfold Cz at a;split at a
 .simp only[b9,not_or]at a;exact⟨a.2,a.1⟩
 .rename_i l;refine⟨a,?_⟩;intro e;subst e;have:dy d f=ae:=by simpa[s7]using m
  rw[this]at l;cases l
structure aos(k l:Y)(m f:Mem)(g:V Y)(ms:Ms)(o:V Y)(d:Ms)(i:V Y):Prop where
 out:∀a,a∉g->bD a d=bD a ms
 Ov:∀a,a∈g->bD a d=S a f
 gone:∀a,a∈g->S a f=none->∃b,S a m=ad b
 log:∀a,a<l->a∉i->a∉o/\bD a d=bD a ms
 CI:∀a b,a<l->bD a d=ad b->∃p,bD a ms=ad p
 wf:fv ms (k+1)->fv d (k+1)
 tl:mn ms d
def Ow{A:Y}(L:A<=k){M g:Mem}:∀{T:V Y}{ms:Ms}{B:V Y}{p:Ms}{s:V Y},CB k A M g T ms B=ad (p,s)->aos k A M g T ms B p s
 |[],ms,B,p,s,h=>by
  have:ms=p/\B=s:=by simpa[CB]using h
  obtain⟨rfl,rfl⟩:=this;exact⟨λ_ _=>rfl,λ_ h=>fE,λ_ h=>fE,λ_ _ h=>⟨h,J⟩,λ_ y _ h=>⟨y,h⟩,λh=>h,mn.refl _⟩
 |i::r,ms,B,p,s,h=>by
  have e:CB k A M g (i::r) ms B=match mX i g with
   |some y=>(match Jl (k+1) y with
    |true=>(match g6 i k with
     |true=>CB k A M g r (Ad k y ms) B
     |false=>(match bD i ms with
      |some _=>CB k A M g r (qX i y ms)<|Cz A i B
      |none=>none))
    |false=>none)
   |none=>(match mX i M with
    |some _=>CB k A M g r (uU i ms)<|Cz A i B
    |none=>none):=rfl
  rw[e]at h;simp only[x4]at h;split at h
  .rename_i y Q;split at h
   .rename_i K;split at h
    .rename_i C;have C:i=k:=lL C;have f:=Ow L h;refine⟨?_,?_,?_,?_,?_,?_,(aon k y ms).trans f.tl⟩
     .intro j a;simp only[b9,not_or]at a;rw[f.out j a.2,Jj,w<|by rw[<-C];exact λe=>a.1 e.symm]
     .intro j a;by_cases u:j∈r
      .exact f.Ov j u
      .have:j=i:=by simpa[u]using a
       subst this;rw[f.out j u,Jj,b C.symm,Q]
     .intro j a H;rcases b9.1 a with rfl|a
      .rw[Q]at H;cases H
      .exact f.gone j a H
     .intro j a o;let ⟨m,h2⟩:=f.log j a o;exact⟨m,by rw[h2,Jj,w O]⟩
     .intro j U a v;let ⟨W,F⟩:=f.CI j U a v;rw[Jj,w O]at F;exact⟨W,F⟩
     .intro o;refine f.wf ?_;intro X c d;rw[Jj]at d;split at d
      .rename_i q;cases d;exact⟨O,acH K⟩
      .exact o X c d
    .split at h
     .rename_i W x;have f:=Ow L h;have l:∀j,bD j (qX i y ms)=if i=j then ad y else bD j ms:=by intro j;rw[Fv,x]
      refine⟨?_,?_,?_,?_,?_,?_,(Uw i y ms).trans f.tl⟩
      .intro j a;simp only[b9,not_or]at a;rw[f.out j a.2,l,w<|λe=>a.1 e.symm]
      .intro j a;by_cases u:j∈r
       .exact f.Ov j u
       .have:j=i:=by simpa[u]using a
        subst this;rw[f.out j u,l,b J,Q]
      .intro j a H;rcases b9.1 a with rfl|a
       .rw[Q]at H;cases H
       .exact f.gone j a H
      .intro j a o;let ⟨m,h2⟩:=f.log j a o;let ⟨z,D⟩:=Uz a m;exact⟨z,by rw[h2,l,w<|λe=>D e.symm]⟩
      .intro j U a v;let ⟨E,m⟩:=f.CI j U a v;rw[l]at m;split at m
       .rename_i q;subst q;exact⟨W,x⟩
       .exact⟨E,m⟩
      .intro o;refine f.wf ?_;intro X c d;rw[l]at d;split at d
       .rename_i q;cases d;subst q;exact⟨(o _ _ x).1,acH K⟩
       .exact o X c d
     .cases h
   .cases h
  .rename_i Q;split at h
   .rename_i W x;have f:=Ow L h;refine⟨?_,?_,?_,?_,?_,?_,(aom i ms).trans f.tl⟩
    .intro j a;simp only[b9,not_or]at a;rw[f.out j a.2,Cx,w<|λe=>a.1 e.symm]
    .intro j a;by_cases u:j∈r
     .exact f.Ov j u
     .have:j=i:=by simpa[u]using a
      subst this;rw[f.out j u,Cx,b J,Q]
    .intro j a H;rcases b9.1 a with rfl|a
     .exact⟨W,x⟩
     .exact f.gone j a H
    .intro j a o;let ⟨m,h2⟩:=f.log j a o;let ⟨z,D⟩:=Uz a m;exact⟨z,by rw[h2,Cx,w<|λe=>D e.symm]⟩
    .intro j U a v;let ⟨E,m⟩:=f.CI j U a v;rw[Cx]at m;split at m
     .cases m
     .exact⟨E,m⟩
    .intro o;refine f.wf ?_;intro X c d;rw[Cx]at d;split at d
     .cases d
     .exact o X c d
   .cases h
structure Left(i:Y)(dep n:Y)(t:Tr)(ms:Ms)(k:Y)(l:V Y)(m:Tr)(a:Ms)(f:Y)(g:V Y):Prop where
 le:k<=f
 dT:dT dep n m f
 fv:fv a f
 log:∀d,d<i->d∉g->d∉l/\bD d a=bD d ms
 CI:∀d b,d<i->bD d a=ad b->∃o,bD d ms=ad o
 tl:mn ms a
def uY{d}{v}{l}{m}{f:Ft}{o}{a}{p}{g}{s:Ft}(i:uV d v t ms l m f= .ok o a p g s):o=jK d v t/\a=ms/\p=l/\g=m/\s=f/\∀u∈v.ak,u<l:=by
 unfold uV at i;split at i
 .rename_i x;simp only[Rs.ok.injEq]at i;let ⟨y,h2,A,B,C⟩:=i;exact⟨y.symm,h2.symm,A.symm,B.symm,C.symm,an8 x⟩
 .cases i
def aot(di:cq P tt=ae){ke}(qy:ke<=k)(hn:n<=4^dep){o:a4}(hg:o.guard=none){d:ax (Y×V D4)}(hd:o.dst=d.map (·.1))(Fj:∀x,d=ad x->x.2=de dep x.1/\x.1<n){U}(sf:FA dep n (slotsOf o.op.operands.toList)=ad U)
  (pR:dT dep n t k) (jL:fv ms k) {wl}{t'}{wH}{k'}{lu}{f:Ft} (g:Uo tt n ke d U o.op t ms k wl (n8 U t) (tz (Ae<|n8 U t) ms)= .ok t' wH k' lu f):
  ∃ks,gH P n #[o] 0 (bh dep n t ms.flatten) (bh dep n t' wH.flatten) k k' ks/\(∀l,Key.s l∈ks.1->l∈slotsOf o.op.operands.toList)/\(∀l,Key.s l∈ks.2->o.dst=ad l)/\(∀a,Key.m a∈ks.1->se f a)/\(∀a,Key.m a∈ks.2->nC f a)/\Left ke dep n t ms k wl t' wH k' lu:=by
 have T:=ac9 sf
 have C:∀u x,St.kn ⟨n8 U t,tz (Ae<|n8 U t) ms,0,[]⟩ u=ad x->(bh dep n t ms.flatten).kn u=ad x:=by
  intro u x D;cases u with
  |s l=>
   simp only[St.kn,cG]at D
   obtain⟨v,hv,rfl⟩:=D
   let ⟨X,E⟩:=ac' (dep:=dep) (n:=n) (λy hy=>⟨(T y hy).1,(T y hy).2.1⟩) hv
   simp[bh,St.kn,tx,X,E]
  |m a=>
   simp only[St.kn,cG]at D
   obtain⟨v,hv,rfl⟩:=D
   simp[bh,St.kn,jB,Ux hv]
 unfold Uo at g
 split at g
 .rename_i N k1 ks hs;split at g
  .rename_i F;simp only[cz]at F;let ⟨⟨R,L⟩,BC⟩:=F;have R:k1=k+1:=lL R;subst R;split at g
   .rename_i UA wl2 ha;have Z:=Ow qy ha;rw[<-hd]at hs L;let ⟨rd,wr,r,gN,qh,hle,vT,UB⟩:=aj6 di (λ_ _ _ _ _ _ _ g=>by simp[acI]at g) (o:=o) hg hs;have M:∀u,u∉ks.2->aE wr u=none:=by
     intro u hk;cases W:aE wr u with
     |none=>rfl
     |some x=>exact absurd (UB u<|AN<|by simp[oO,W]) hk
    have G:∀a,(S a UA.flatten).map Info.b=bs (bh dep n t ms.flatten).kn wr (.m a):=by
     intro a;rw[jB];by_cases z:a∈mK ks.2
     .rw[Z.Ov a z];have X:(S a N.mem).map Info.b=bs (St.kn ⟨n8 U t,tz (Ae<|n8 U t) ms,0,[]⟩) wr (.m a):=by rw[<-qh];rfl
      rw[X];simp only[bs];cases W:aE wr (.m a)with
      |some x=>rfl
      |none=>
       simp only
       have E:(S a N.mem).map Info.b=(S a<|tz (Ae<|n8 U t) ms).map Info.b:=by rw[X];simp only[bs,W];rfl
       cases hm:S a N.mem with
       |none=>
        let ⟨Ak,hb⟩:=Z.gone a z hm
        rw[hm,hb]at E
        simp at E
       |some Ak=>
        rw[hm]at E
        simp only[vG]at E
        rw[show St.kn ⟨n8 U t,tz (Ae<|n8 U t) ms,0,[]⟩ (.m a)=ad (Info.b Ak)from E.symm]
        exact(C (.m a) (.b Ak) E.symm).symm
     .rw[Z.out a z];simp only[bs,M (.m a)<|λhc=>z<|CH.2 hc];simp[bh,St.kn,jB]
    have hL:∀{t'':Tr},dT dep n t'' (k+1)->Left ke dep n t ms k wl t'' UA (k+1) wl2:=λhw=>⟨O,hw,Z.wf<|jL.le O,Z.log,Z.CI,Z.tl⟩
    cases d with
    |none=>
     simp only[Rs.ok.injEq]at g
     obtain⟨rfl,rfl,rfl,rfl,rfl⟩:=g
     have Q:o.dst=none:=hd
     rw[Q]at L
     refine⟨ks,⟨rd,wr,r,λkx c=>C _ _<|gN kx c,?_,hle,vT,UB⟩,?_,?_,?_,?_,hL<|pR.le O⟩
     .exact acp dep n t ms.flatten _ wr G<|λl=>M _<|Uy L l
     .intro l B;let ⟨x,D,e⟩:=iJ.1<|Ou BC l B;rw[<-e];exact(T x D).2.2
     .intro l B;exact absurd B<|Uy L l
     .intro a A;exact CH.2 A
     .intro a A;exact CH.2 A
    |some x=>
     let ⟨I,dp⟩:=x
     let ⟨H,K⟩:=Fj (I,dp) J
     simp only at H K
     have Q:o.dst=ad I:=hd
     rw[Q]at L
     simp only at g
     split at g
     .rename_i v hv;obtain⟨rfl,rfl,rfl,rfl,rfl,q⟩:=uY g;subst H;refine⟨ks,⟨rd,wr,r,λkx c=>C _ _<|gN kx c,?_,hle,vT,UB⟩,?_,?_,?_,?_,hL<|(pR.le O).set hn K q⟩
      .funext u;cases u with
       |m a=>exact G a
       |s l=>
        rw[Fo]
        simp only
        by_cases e:l=I
        .subst e;rw[b K,Jf];have X:bs (St.kn ⟨n8 U t,tz (Ae<|n8 U t) ms,0,[]⟩) wr (.s l)=ad (.v v):=by rw[<-qh];simp[St.kn,hv]
         simp only[bs]at X⊢;cases W:aE wr (.s l)with
         |some y=>rw[W]at X;simp only at X⊢;rw[X];rfl
         |none=>rw[W]at X;simp only at X⊢;rw[C _ _ X];rfl
        .have nj:aE wr (.s l)=none:=M _<|λhc=>e<|Oq L l hc;simp only[bs,nj,bh,St.kn,tx];by_cases B:l<n
         .rw[b B,b B,Fl _ _ _ _ Fp<|λe'=>e (Cw dep O O e').symm]
         .rw[w B,w B]
      .intro l B;let ⟨x,D,e⟩:=iJ.1<|Ou BC l B;rw[<-e];exact(T x D).2.2
      .intro l B;rw[Q,Oq L l B]
      .intro a A;exact CH.2 A
      .intro a A;exact CH.2 A
     .cases g
   .cases g
  .cases g
 .cases d with
  |none=>cases g
  |some x=>
   let ⟨I,dp⟩:=x
   let ⟨H,K⟩:=Fj (I,dp) J
   simp only at H K
   subst H
   have Q:o.dst=ad I:=hd
   dsimp only at g
   unfold Ob at g
   split at g
   .rename_i v p he;split at g
    .rename_i z9;obtain⟨rfl,rfl,rfl,rfl,rfl,q⟩:=uY g;have r:=Ro (P:=P) di (ops:= #[o]) (i:=0) J hg Q K he (Fs z9) k;refine⟨(bK o.op.operands.toList,[.s I]),gH.mG r (λkx c=>C _ _<|rv _ _ kx c) (Fq dep n t _ I v hn K) Bp mH,?_,?_,?_,?_,⟨O,(pR.le O).set hn K q,jL.le O,λ_ _ g=>⟨g,J⟩,λ_ Ak _ g=>⟨Ak,g⟩,mn.refl _⟩⟩
     .intro l B;exact FK.2 B
     .intro l B;simp only[iK,Key.s.injEq]at B;rw[Q,B]
     .intro a A;let ⟨l,B⟩:=Aj A;cases B
     .intro a A;simp at A
    .cases g
   .cases g
end
section
variable{P:bW}{tt:TT}{dep n:Y}{t:Tr}{ms:Ms}{k:Y}
def adb(g:Y->ax Info)(a:Y):∀l:V Y,aE (l.map λf=>(Key.m f,g f)) (.m a)=if a∈l then ad (g a)else none
 |[]=>rfl
 |i::l=>by
  simp only[il,aE,Key.m.injEq,adb g a l,b9];by_cases d:i=a
  .subst d;simp
  .simp[d,show a≠i from λo=>d o.symm]
def ade(g:Y->ax Info)(a:Y):∀l:V Y,aE (l.map λd=>(Key.m d,g d)) (.s a)=none
 |[]=>rfl
 |i::l=>by simp only[il,aE,reduceCtorEq,bN,ade g a l]
def adf:∀{l:V (Y×aG)}{d:Y}{f:aG},S d l=ad f->d∈l.map (·.1)
 |[],d,f,a=>by simp[S]at a
 | (i,x)::l,d,f,a=>by
  simp only[S]at a;split at a
  .rename_i g;simp[g]
  .exact ko _<|adf a
def UC:∀{l:V (Y×aG)}{d:Y},d∈l.map (·.1)->∃f,S d l=ad f
 |[],d,a=>by simp at a
 | (i,x)::l,d,a=>by
  simp only[S];split
  .exact⟨_,J⟩
  .rename_i g;rcases b9.1 a with a|a
   .exact absurd a.symm g
   .exact UC a
def aov{qA:mY}(o4:wG P qA)(hn:n<=4^dep){o:a4}(hg:o.guard=none){d:Y}(hd:o.dst=ad d)(dz:d<n){cf}{args}{kV}(b6:o.op= .call ⟨.value cf,args,kV⟩){f}{vs}{U}
  (ht:vM (bh dep n t ms.flatten) cf args.toList=ad (f,vs,U)) (Ls:∀y∈U,y<k) (vQ:∀y∈cR vs,y<k) (jL:fv ms k) {bf}{H}{k'}{L}(hc:qA f vs ms k= .ok bf H k' L):
  ∃ks,gH P n #[o] 0 (bh dep n t ms.flatten) (bh dep n (jK (de dep d) bf t) H.flatten) k k' ks/\(∀p,Key.s p∈ks.1->Key.s p∈bK (cf::args.toList))/\(∀p,Key.s p∈ks.2->p=d)/\(∀y,Key.m y∈ks.1->y<k)/\(∀y,Key.m y∈ks.2->(y∈L/\y<k)\/(k<=y/\y<k')):=by
 let ⟨N,UD,nk,Kj,hold,aow,Ip,_⟩:=o4.ok hc jL vQ
 have C:∀y B,S y ms.flatten=ad B->y<k/\∀p∈B.ak,p<k:=λy B hb=>jL y B Ox
 let X:St:=bh dep n t ms.flatten
 let q:V (Key×ax Info):=(L.filter<|λy=>(S y ms.flatten).isSome).map<|λy=>(Key.m y,(S y H.flatten).map Info.b)
 let E:V (Key×ax Info):=(.s d,ad<|.v bf)::(q++kY k H.flatten)
 let rd:=cJ X cf++args.toList.flatMap (cJ X)++fL X U++fL X (ms.flatten.map (·.1))
 have HZ:∀p,aE E (.m p)=if p∈L/\(S p ms.flatten).isSome=ae then ad ((S p H.flatten).map Info.b)else if k<=p then(S p H.flatten).map (λB=>ad<|.b B)else none:=by
  intro p;simp only[E,q,aE,reduceCtorEq,bN,ug,adb (λy=>(S y H.flatten).map Info.b) p,yT,oP];by_cases h:p∈L/\(S p ms.flatten).isSome=ae
  .simp[h]
  .rw[w h,w h]
 have R:∀p,aE E (.s p)=if d=p then ad (ad<|.v bf)else none:=by intro p;simp only[E,q,aE,ug,ade (λy=>(S y H.flatten).map Info.b) p,yS,Key.s.injEq]
 have pn:∀p,p<k->p∉L->S p H.flatten=S p ms.flatten:=by intro p z Z;rw[jB,jB];exact Kj p z Z
 refine⟨(dI rd,fW E),⟨rd,E,?_,?_,?_,N.le,λ_ h=>h,λ_ h=>h⟩,?_,?_,?_,?_⟩
 .intro F kO Q known σ g W a K wU aR gN hK;let ⟨us,hex,BV,X9⟩:=Yd aR b6 ht N.call<|λkx c=>gN kx<|eH _ c;have wV:=xi (st:=X) (ids:=ms.flatten.map (·.1)) (σ:=σ)<|λkx c=>gN kx<|gD _ c;have G:∀y B,S y ms.flatten=ad B->σ (.m y)=ad (.b B):=λy B hb=>wV y (adf hb) B hb
  have xe:d<a.tmps.size:=mD;have K4:=X8 N vQ C (λy M=>by
    rcases UD y M with h|⟨B,hb⟩
    .exact .inl h
    .exact .inr ⟨B,by rw[jB];exact hb⟩) (λy B hb=>by
    rcases nk y B Ox with h|h
    .exact .inl (by rw[jB];exact h)
    .refine .inr<|λp hj=>?_;rcases h p hj with h|⟨b',l6⟩
     .exact .inl h
     .exact .inr ⟨b',by rw[jB];exact l6⟩) aR wU BV X9 G xe
  have aox:bs σ ((.s d,ad<|.v bf)::(o0 H.flatten ms.flatten++kY k H.flatten))=bs σ E:=by
   funext A;cases A with
   |s p=>
    simp only[bs,R,aE,ug,D6,yS,Key.s.injEq]
   |m p=>
    simp only[bs,HZ,aE,reduceCtorEq,bN,ug,Hk,yT]
    by_cases D:(S p ms.flatten).isSome=ae
    .by_cases I:p∈L
     .simp[D,I]
     .let ⟨B,hb⟩:=Hl.1 D;have hjk:=(C p B hb).1;simp only[D,cj,I,false_and,bN];rw[w O,pn p hjk I,hb,G p B hb];rfl
    .simp[D]
  rw[aox]at K4;unfold wpOp;simp only[vr,m9,Region.wanted,hg,cj];refine .inl ?_;unfold Oper.wp;rw[hex];simp only[Oper.upon,hd];refine K4.mono ?_;rintro e W' ⟨v,g',rfl,h'⟩;exact hK g' W' _ h'
 .intro kx c;rcases bg.1 c with h|h
  .rcases bg.1 h with h|h
   .rcases bg.1 h with h|h
    .exact eD _ _ kx h
    .let ⟨x,_,hx⟩:=jb.1 h;exact eD _ _ kx hx
   .exact kr _ _ kx h
  .exact kr _ _ kx h
 .funext A;cases A with
  |s p=>
   simp only[bs,R,bh,St.kn,aco dep n t d p bf hn dz]
   by_cases e:d=p<;>simp[e]
  |m p=>
   simp only[bs,HZ,bh,St.kn]
   by_cases h:p∈L/\(S p ms.flatten).isSome=ae
   .simp[h]
   .rw[w h];by_cases hk:k<=p
    .rw[b hk];cases hx:S p H.flatten with
     |some B=>rfl
     |none=>
      have:S p ms.flatten=none:=by
       cases hy:S p ms.flatten with
       |none=>rfl
       |some B=>exact absurd (C p B hy).1 O
      simp[this]
    .rw[w hk];by_cases I:p∈L
     .have nj:S p ms.flatten=none:=by
       cases hy:S p ms.flatten with
       |none=>rfl
       |some B=>exact absurd ⟨I,uH⟩ h
      have:S p H.flatten=none:=by
       cases hy:S p H.flatten with
       |none=>rfl
       |some B=>
        rcases hold p B (by rw[<-jB];exact hy)with z|⟨b0,z⟩
        .omega
        .rw[<-jB,nj]at z;cases z
      rw[this,nj]
     .rw[pn p O I]
 .intro p hj;have rE:∀A∈dI rd,A∈bK (cf::args.toList)\/∃y,A=Key.m y:=by
   intro A hk;simp only[dI,rd,fM,bg]at hk;rcases hk with((h|h)|h)|h
   .exact .inl (eO X (cf::args.toList) A<|by simp only[lG,dI,fM,bg];exact .inl h)
   .exact .inl (eO X (cf::args.toList) A<|by simp only[lG,dI,fM,bg];exact .inr h)
   .have:=ku X U A h;right;revert this;generalize U=l;intro this;induction l with
    |nil=>simp[cV]at this
    |cons i l T=>simp only[cV,b9]at this;exact this.elim (λe=>⟨i,e⟩) T
   .have:=ku X _ A h;right;revert this;generalize ms.flatten.map (·.1)=l;intro this;induction l with
    |nil=>simp[cV]at this
    |cons i l T=>simp only[cV,b9]at this;exact this.elim (λe=>⟨i,e⟩) T
  rcases rE _ hj with h|⟨y,h⟩
  .exact h
  .cases h
 .intro p hj;apply Decidable.byContradiction;intro gM;have:=R p;rw[w (λe=>gM e.symm)]at this;have Z:∀{u:V (Key×ax Info)}{A:Key},A∈fW u->aE u A≠none:=by
   intro u;induction u with
   |nil=>intro A h;simp[fW]at h
   |cons x u T=>
    intro A h
    simp only[aE]
    split
    .simp
    .rename_i gM;simp only[fW,il,b9]at h;rcases h with h|h
     .exact absurd h.symm gM
     .exact T h
  exact Z hj this
 .intro y M;simp only[dI,rd,fM,bg]at M;have oQ:∀{l:V Y},Key.m y∈cV l->y∈l:=by
   intro l;induction l with
   |nil=>simp[cV]
   |cons i l T=>simp only[cV,b9,Key.m.injEq];exact λh=>h.elim .inl<|λh=> .inr<|T h
  have sY:∀{l:V eI},Key.m y∉bK l:=by
   intro l;induction l with
   |nil=>simp[bK]
   |cons x l T=>cases x<;>simp[bK,T]
  rcases M with((h|h)|h)|h
  .exact absurd (eO X [cf] (.m y) KN) sY
  .exact absurd (eO X args.toList (.m y) h) sY
  .exact Ls y<|oQ<|ku X U _ h
  .let ⟨B,hb⟩:=UC<|oQ<|ku X _ _ h;exact(C y B hb).1
 .intro y M;simp only[fW,E,q,il,fM,b9,reduceCtorEq,false_or,bg,MR]at M;rcases M with h|h
  .let ⟨p,hj,e⟩:=iJ.1 h;simp only[Function.comp,Key.m.injEq]at e;subst e;let ⟨z,Z⟩:=oP.1 hj;let ⟨B,hb⟩:=Hl.1 Z;exact .inl ⟨z,(C _ B hb).1⟩
  .right;have I:∀{l:V (Y×aG)},Key.m y∈(kY k l).map (·.1)->k<=y/\y∈l.map (·.1):=by
    intro l;induction l with
    |nil=>simp[kY]
    |cons x l T=>
     let ⟨i,B⟩:=x
     simp only[kY]
     split
     .rename_i Bn;simp only[il,b9,Key.m.injEq];rintro(rfl|h)
      .exact⟨Bn,.inl J⟩
      .exact⟨(T h).1,.inr (T h).2⟩
     .intro h;exact⟨(T h).1,ko _ (T h).2⟩
   let ⟨z,Z⟩:=I h;let ⟨B,hb⟩:=UC Z;exact⟨z,(aow y B Ox).1⟩
end
def si:ax Y->V Key
 |some d=>[.s d]
 |none=>[]
def adg(op:Op):pQ op=op.operands.toList:=by
 unfold pQ;split
 .rename_i d args a;simp[adh,Call.operands]
 .rfl
section
variable{P:bW}{tt:TT}{dep n:Y}{t:Tr}{ms:Ms}{k:Y}
def aoz{l}{d}{f}(i:f.1=bK l)(m:f.2=[.s d]):Ah (bK l,[.s d]) f .n:=by
 refine⟨λg a=>?_,λg a=>?_⟩
 .obtain⟨j,rfl⟩:=Aj a;simp only[i];exact a
 .simp only[iK]at a;subst a;simp[m]
def adi{l}(m:n<=4^dep){d}(a:d<n)(f:dT dep n t k)(g:fv ms k){i}{v}(o:∀p∈v.ak,p<k+1):Left l dep n t ms k i (jK (de dep d) v t) ms (k+1) i:=
 ⟨O,(f.le O).set m a o,g.le O,λ_ _ h=>⟨h,J⟩,λ_ b _ h=>⟨b,h⟩,mn.refl _⟩
def aoA{g}{d i}{f}(l:f<g)(a:f∉Og g d i):f∉d/\f∉i:=by
 unfold Og at a;split at a
 .exact⟨az,a⟩
 .simp only[bg,oP,not_or,not_and]at a;exact⟨λm=>a.1 m (by simpa[s7]using l),a.2⟩
def aoB{g:mY}{s}{d}{f}{vs}{u}{v}{i}{p}{l}{x:Ft}(m:Fw g s d f vs t ms k u= .ok v i p l x):
  ∃o a,g f vs ms k= .ok o i p a/\v=jK d o t/\l=Og s a u/\x= .c k p a:=by
 unfold Fw at m
 split at m
 .rename_i o y B a A;obtain⟨rfl,rfl,rfl,rfl,rfl,_⟩:=uY m;exact⟨o,a,A,J,J,J⟩
 .cases m
def UE{p:mY}(a:wG P p){Q}(qy:Q<=k)(hn:n<=4^dep){o:a4}(hg:o.guard=none){d:Y}(hd:o.dst=ad d)(u:d<n){cf}{args}{T}(v:o.op= .call ⟨.value cf,args,T⟩){f}{vs}{ids}
  (ht:vM (bh dep n t ms.flatten) cf args.toList=ad (f,vs,ids)) (x:∀g∈ids,g<k) (y:∀g∈cR vs,g<k) (U:dT dep n t k) (A:fv ms k) {wl}{W}{i}{k'}{B}{ft:Ft} (dj:Fw p Q (de dep d) f vs t ms k wl= .ok W i k' B ft):
  ∃L,gH P n #[o] 0 (bh dep n t ms.flatten) (bh dep n W i.flatten) k k' L/\Ah L (bK<|pQ o.op,si o.dst) ft/\Left Q dep n t ms k wl W i k' B:=by
 obtain⟨r,z,q,rfl,rfl,rfl⟩:=aoB dj
 let ⟨L,hx,D,h2,E,F⟩:=aov a hn hg hd u v ht x y A q
 let ⟨C,G,I,X,hold,H,c,e⟩:=a.ok q A y
 refine⟨L,hx,⟨λl K=>?_,λl K=>?_⟩,⟨C.le,(U.le C.le).set hn u c,H,λj w J=>?_,λj b w N=>?_,e⟩⟩
 .cases l with
  |s j=>simp only[pQ,v];exact D j K
  |m g=>exact E g K
 .cases l with
  |s j=>simp only[hd,si];rw[h2 j K];simp
  |m g=>exact F g K
 .let ⟨M,R⟩:=aoA w J;exact⟨R,X j O M⟩
 .rcases hold j b N with M|M
  .omega
  .exact M
def adk(H:cq P tt=ae){qA:mY}(o4:wG P qA){ke}(qy:ke<=k)(hn:n<=4^dep){o}(hg:o.guard=none){i}(A:Jo dep n o.dst o.op=ad i)(Q:dT dep n t k)(L:fv ms k){wl}{t'}{T}{k'}{lu}{f:Ft}
  (h:qY qA tt n ke i t ms k wl= .ok t' T k' lu f):
  (∃ks,gH P n #[o] 0 (bh dep n t ms.flatten) (bh dep n t' T.flatten) k k' ks/\Ah ks (bK<|pQ o.op,si o.dst) f/\Left ke dep n t ms k wl t' T k' lu)/\(n9 o=ah->f= .n):=by
 have gen:∀{d:ax Y},o.dst=d->(∀x,d=ad x->x<n)->Oi dep n d o.op=ad i->∃ks,gH P n #[o] 0 (bh dep n t ms.flatten) (bh dep n t' T.flatten) k k' ks/\Ah ks (bK<|pQ o.op,si o.dst) f/\Left ke dep n t ms k wl t' T k' lu:=by
  intro d hd g G;unfold Oi at G;split at G
  .rename_i sl sf;have C:∀dd:ax (Y×V D4),d=dd.map (·.1)->(∀x,dd=ad x->x.2=de dep x.1/\x.1<n)->i= .gen dd sl o.op->∃ks,gH P n #[o] 0 (bh dep n t ms.flatten) (bh dep n t' T.flatten) k k' ks/\Ah ks (bK<|pQ o.op,si o.dst) f/\Left ke dep n t ms k wl t' T k' lu:=by
    intro dd FM Fj r;subst r;let ⟨ks,E,K,M,U,W,X⟩:=aot H qy hn hg (hd.trans FM) Fj sf Q L h;refine⟨ks,E,⟨λC B=>?_,λC B=>?_⟩,X⟩
    .cases C with
     |s j=>simp only[adg];exact FK.1<|K j B
     |m I=>exact U I B
    .cases C with
     |s j=>simp[M j B,si]
     |m I=>exact W I B
   cases d with
   |some d=>
    simp only[ar]at G
    exact C (ad (d,de dep d)) J (λx E=>by cases E;exact⟨J,g d J⟩) G.symm
   |none=>
    simp only[ar]at G
    exact C none J (λx E=>by cases E) G.symm
  .cases G
 unfold Jo at A
 split at A
 .rename_i hd;split at A
  .rename_i ty x y b6;refine⟨?_,λtB=>by simp[n9,hd]at tB⟩;split at A
   .rename_i p q hp hq;cases A;simp only[qY,acT,acS]at h;split at h
    .rename_i v H3 hv hw
     .split at h
      .rename_i I b us rJ;split at h
       .rename_i Z;simp only[Rs.ok.injEq]at h;obtain⟨rfl,rfl,rfl,rfl,rfl⟩:=h;let ⟨E,b0,BH,Ju⟩:=aor (P:=P) (k:=k) H hg hd b6 (ls hp hv) (ls hq hw) rJ;have UF:∀j,bD j (qX I b ms)=if I=j then ad b else bD j ms:=λj=>by rw[Fv,BH]
        refine⟨_,E,⟨λC B=>?_,λC B=>?_⟩,⟨O,Q.le O,?_,?_,?_,Uw I b ms⟩⟩
        .rcases bg.1 B with B|B
         .obtain⟨j,rfl⟩:=Aj B;simpa[pQ,b6,adh]using B
         .simp only[cV,iK]at B;subst B;simp[se]
        .simp only[iK]at B;subst B;simp[nC]
        .intro j b' F;rw[UF]at F;split at F
         .rename_i e;cases F;subst e;exact⟨Oy (L _ _ BH).1,λj hj=>Oy<|(Ju j hj).elim ((L _ _ BH).2 j)<|Ac Z j⟩
         .exact(L.le<|Nat.le_succ k) j b' F
        .intro j hj hw';let ⟨K,M⟩:=Uz hj hw';exact⟨K,by rw[UF,w<|λe=>M e.symm]⟩
        .intro j b' _ F;rw[UF]at F;split at F
         .rename_i e;subst e;exact⟨b0,BH⟩
         .exact⟨b',F⟩
       .cases h
      .cases h
    .cases h
   .cases A
  .exact⟨gen hd (λx E=>by cases E) A,λtB=>by simp[n9,hd]at tB⟩
 .rename_i d hd;split at A
  .cases A
  .rename_i g;have g:d<n:=Ai g;have pv:∀{v:AV},t'=jK (de dep d) v t->T=ms->k'=k+1->lu=wl->f= .n->(∀I∈v.ak,I<k+1)->gH P n #[o] 0 (bh dep n t ms.flatten) (bh dep n (jK (de dep d) v t) ms.flatten) k (k+1) (bK o.op.operands.toList,[.s d])->
     (∃ks,gH P n #[o] 0 (bh dep n t ms.flatten) (bh dep n t' T.flatten) k k' ks/\Ah ks (bK<|pQ o.op,si o.dst) f/\Left ke dep n t ms k wl t' T k' lu)/\(n9 o=ah->f= .n):=by
    rintro v rfl rfl rfl rfl rfl Z E
    exact⟨⟨_,E,aoz (by rw[adg]) (by rw[hd];rfl),adi hn g Q L Z⟩,λ_=>rfl⟩
   split at A
   .rename_i x b6;split at A
    .rename_i p hp;cases A;simp only[qY,Up]at h;split at h
     .rename_i v hv;let ⟨K,M,U,W,X,D⟩:=uY h;exact pv K M U W X D<|CG H hg hd g hn (p:= .t) (by simp only[b6,tO,ls hp hv]) aX
     .cases h
    .cases A
   .rename_i x b6;split at A
    .rename_i p hp;cases A;simp only[qY,Up]at h;split at h
     .rename_i v hv;let ⟨K,M,U,W,X,D⟩:=uY h;exact pv K M U W X D<|CG H hg hd g hn (p:= .t) (by simp only[b6,tO,ls hp hv]) aX
     .cases h
    .cases A
   .rename_i bo ty x y ty2 b6;split at A
    .rename_i p q hp hq;cases A;simp only[qY,acM,acL,acK,acJ]at h;split at h
     .rename_i a b ha hb
      .split at h
       .rename_i c pr MW;split at h
        .rename_i z9;simp only[Rs.ok.injEq]at h;let ⟨K,M,U,W,X⟩:=h;refine pv K.symm M.symm U.symm W.symm X.symm (λI fe=>?_)<|CG H hg hd g hn (p:=pr) (by simp only[b6,tO,ls hp ha,ls hq hb,MW])<|Fs z9;simp only[AV.ak,Xd MW]at fe;cases fe
        .cases h
       .split at h
        .rename_i u hnt;let ⟨K,M,U,W,X,D⟩:=uY h;exact pv K M U W X D<|aop H hg hd g hn (p:= .t) (by simp only[b6,vP,ls hp ha,ls hq hb,hnt]) aX
        .cases h
     .cases h
    .cases A
   .rename_i ty x y b6;split at A
    .rename_i p q hp hq;cases A;simp only[qY,acN]at h;split at h
     .rename_i v H3 hv hw
      .unfold Ob at h;split at h
       .rename_i u pr r;split at h
        .rename_i z9;let ⟨K,M,U,W,X,D⟩:=uY h;unfold acw at r;split at r
         .rename_i z hz;cases r;exact pv K M U W X D<|ac8 H hg hd g hn (p:=pr) (by simp only[b6,D1,ls hp hv,ls hq hw,hz])<|Fs z9
         .exact pv K M U W X D<|CG H hg hd g hn (p:=pr) (by simp only[b6,tO,ls hp hv,ls hq hw,r])<|Fs z9
        .cases h
       .cases h
     .cases h
    .cases A
   .rename_i ty x fi b6;split at A
    .rename_i p hp;cases A;simp only[qY,acO]at h;split at h
     .rename_i v hv;split at h
      .rename_i u hu;let ⟨K,M,U,W,X,D⟩:=uY h;exact pv K M U W X D<|CG H hg hd g hn (p:= .t) UG aX
      .cases h
     .cases h
    .cases A
   .rename_i x j b6;split at A
    .rename_i p hp;cases A;simp only[qY,acP]at h;split at h
     .rename_i v hv;split at h
      .rename_i u hu;let ⟨K,M,U,W,X,D⟩:=uY h;exact pv K M U W X D<|CG H hg hd g hn (p:= .t) UG aX
      .cases h
     .cases h
    .cases A
   .rename_i ty x b6;refine⟨?_,λtB=>Oz⟩;split at A
    .rename_i p hp;cases A;simp only[qY,acR]at h;split at h
     .rename_i v hv;split at h
      .rename_i u ids hu;obtain⟨rfl,rfl,rfl,rfl,rfl,D⟩:=uY h;refine⟨_,aoq H hg hd g hn b6 (ls hp hv) hu,⟨λC B=>?_,λC B=>?_⟩,adi hn g Q L D⟩
       .rcases bg.1 B with B|B
        .obtain⟨j,rfl⟩:=Aj B;simpa[pQ,b6,adh]using B
        .cases C with
         |s j=>exfalso;revert B;generalize ids=l;intro B;induction l with
          |nil=>simp[cV]at B
          |cons a l ih=>simp[cV]at B;exact ih B
         |m I=>simp only[se];revert B;generalize ids=l;intro B;induction l with
          |nil=>simp[cV]at B
          |cons a l ih=>simp only[cV,b9,Key.m.injEq]at B⊢;exact B.elim .inl<|λh=> .inr<|ih h
       .simp only[iK]at B;subst B;simp[hd,si]
      .cases h
     .cases h
    .cases A
   .rename_i fn args kV b6;refine⟨?_,λtB=>Oz⟩;split at A
    .rename_i ps N;cases A;simp only[qY,acU]at h;split at h
     .rename_i vs R;exact UE o4 qy hn hg hd g b6 (ids:=[]) (by simp only[vM,On N R,St.ev]) (λ_ h=>fE) (Oo Q N R) Q L h
     .cases h
    .cases A
   .rename_i j args kV b6;refine⟨?_,λtB=>Oz⟩;split at A
    .rename_i p ps hp N;cases A;simp only[qY,acV]at h;split at h
     .rename_i vs R;split at h
      .rename_i fn E;exact UE o4 qy hn hg hd g b6 (ids:=[]) (by simp only[vM,On N R,ls hp E]) (λ_ h=>fE) (Oo Q N R) Q L h
      .rename_i I E;split at h
       .rename_i fn first Bf hb
        split at h
        .rename_i us ws hu hw;have hlb:S I (bh dep n t ms.flatten).mem=ad (.hY fn first Bf):=by show S I ms.flatten=_;rw[jB];exact hb
         refine UE o4 qy hn hg hd g b6 (ids:=[I]) (by simp only[vM,On N R,ls hp E,hlb,hu,hw]) (λi r=>?_) (λi r=>?_) Q L h
         .simp only[iK]at r;subst r;exact(L _ _ hb).1
         .rw[Lu,Lu]at r;have Ju:=(L _ _ hb).2;simp only[aG.ak,bg]at Ju;rcases bg.1 r with r|r
          .exact Ju i<|.inl<|D9 hu i r
          .rcases bg.1 r with r|r
           .exact Oo Q N R i r
           .exact Ju i<|.inr<|D9 hw i r
        .cases h
       .cases h
      .cases h
     .cases h
    .cases A
   .rename_i x ty b6;refine⟨?_,λtB=>Oz⟩;split at A
    .rename_i p hp;cases A;simp only[qY,acQ]at h;split at h
     .rename_i v hv;split at h
      .rename_i u hu;let ⟨K,M,U,W,X,D⟩:=uY h;unfold acx at hu;split at hu
       .rename_i z hz;cases hu;exact(pv K M U W X D<|ac8 H hg hd g hn (p:= .t) (by simp only[b6,D1,ls hp hv,hz]) aX).1
       .exact(pv K M U W X D<|CG H hg hd g hn (p:= .t) UG aX).1
      .cases h
     .cases h
    .cases A
   .rename_i K M U W X D h7 h8 h9 h10;refine⟨gen hd (λx E=>by cases E;exact g) A,λtB=>?_⟩;exfalso;unfold n9 at tB;rw[hd]at tB;revert tB;clear pv gen h A;cases b6:o.op with
    |move x=>exact absurd b6<|K x
    |assign x=>exact absurd b6<|M x
    |binOp a b c d e=>exact absurd b6<|U a b c d e
    |indexAddr a b c=>exact absurd b6<|W a b c
    |fieldAddr a b c=>exact absurd b6<|X a b c
    |extract a b=>exact absurd b6<|D a b
    |_=>simp
end
section
variable{P:bW}{tt:TT}{dep n:Y}{t:Tr}{ms:Ms}{k:Y}
def Left.refl{g}{f}(a:Go.El.dT dep n t k)(d:Go.El.fv ms k):Left g dep n t ms k f t ms k f:=⟨aO _,a,d,λ_ _ h=>⟨h,J⟩,λ_ b _ h=>⟨b,h⟩,mn.refl _⟩
def Left.trans{o}{s}{u v}{a d}{x y}{f i}(m:Left o dep n t ms k s u a x f)(g:Left o dep n u a x f v d y i):Left o dep n t ms k s v d y i:=
 ⟨bm m.le g.le,g.dT,g.fv,λj l A=>by
  let ⟨p,h2⟩:=g.log j l A;let ⟨B,C⟩:=m.log j l p;exact⟨B,h2.trans C⟩,λj b l H=>by
  let ⟨K,p⟩:=g.CI j b l H;exact m.CI j K l p,m.tl.trans g.tl⟩
def aoF{d}{op:Op}{i}(a:Jo dep n (ad d) op=ad i):d<n:=by
 unfold Jo at a;simp only at a;split at a
 .cases a
 .rename_i f;exact Ai f
def adl(W:cq P tt=ae){qA:mY}(H:wG P qA){ke}(qy:ke<=k)(hn:n<=4^dep){p}{i}{o}(ho:p[i]? =ad o){gi:GI}(u:Uq dep n p.toList o=ad gi)(L:dT dep n t k)(M:fv ms k){wl}{t'}{Q}{k'}{lu}{f:Ft}
  (l:wy qA tt n ke gi t ms k wl= .ok t' Q k' lu f):
  (∃ks,gH P n p i (bh dep n t ms.flatten) (bh dep n t' Q.flatten) k k' ks/\Ah ks (x8 p.toList o) f/\Left ke dep n t ms k wl t' Q k' lu)/\(n9 o=ah->f= .n):=by
 unfold Uq at u
 split at u
 .rename_i z y;split at u
  .rename_i T;cases u;simp only[wy]at l;let ⟨⟨ks,D,h2,E⟩,F⟩:=adk W H qy hn T y L M l;refine⟨⟨ks,D.lift ho T,?_,E⟩,F⟩;have:x8 p.toList o=(bK<|pQ o.op,si o.dst):=by unfold x8 si;rw[T];cases o.dst<;>rfl
   rw[this];exact h2
  .rename_i j v T;split at u
   .rename_i X G;split at u
    .rename_i U;have U:X<n:=Ai U;have a:x8 p.toList o=(.s X::bK (pQ o.op),si o.dst):=by unfold x8 si;rw[T];simp only[G];cases o.dst<;>rfl
     have I:gi.g=ad (de dep X,v)/\gi.i=z/\gi.d=o.dst.map (de dep):=by
      split at u
      .rename_i d K;cases u;exact⟨J,J,by rw[K];rfl⟩
      .rename_i K;cases u;exact⟨J,J,by rw[K];rfl⟩
     let ⟨N,e,R⟩:=I;simp only[wy,N,e,R]at l;split at l
     .rename_i q V;have r:S X (bh dep n t ms.flatten).sl=ad (.c<|.B q):=by show S X (eY dep n t)=_;rw[tx,b U];exact V
      split at l
      .rename_i x;have x:q=v:=by simpa using x
       subst x;let ⟨⟨ks,D,h2,E⟩,F⟩:=adk (o:={o with guard:=none}) W H qy hn J y L M l;refine⟨⟨_,gH.guard ho T G r D,⟨λA C=>?_,h2.2⟩,E⟩,F⟩
       .rcases b9.1 C with rfl|C
        .simp[a]
        .have:=h2.1 A C;cases A with
         |s j=>rw[a];exact ko _ this
         |m id=>exact this
      .rename_i x;cases K:o.dst with
       |none=>rw[K]at l;cases l
       |some d=>
        rw[K]at l y
        simp only[vG,Rs.ok.injEq]at l
        obtain⟨rfl,rfl,rfl,rfl,rfl⟩:=l
        have w:=aoF y
        refine⟨⟨_,gH.Q9 (aiS ho T G r (by cases q<;>cases v<;>simp at x⊢) K) ?_,⟨λA C=>?_,λA C=>?_⟩,⟨O,(L.le O).del hn w,M.le O,λ_ _ l=>⟨l,J⟩,λ_ q _ l=>⟨q,l⟩,mn.refl _⟩⟩,λ_=>rfl⟩
        .rw[an5 dep n t ms.flatten d hn w,Xl]
        .simp only[iK]at C;subst C;simp[a]
        .simp only[iK]at C;subst C;simp[a,K,si]
     .cases l
    .cases u
   .cases u
 .cases u
def adn{a:mY}{l:Y}:∀{v:V GI}{t:Tr}{ms:Ms}{k:Y}{i:V Y}{m:Tr}{d:Ms}{o:Y}{g:V Y}{f:Ft},wz a tt n l v t ms k i= .ok m d o g f->∀s,∃u,x7 a tt n l v t ms k i s= .ok m d o g u
 |[],t,ms,k,i,m,d,o,g,f,p,s=>by have y:Rs.ok t ms k i .n= .ok m d o g f:=p;simp only[Rs.ok.injEq]at y;obtain⟨rfl,rfl,rfl,rfl,rfl⟩:=y;exact⟨s,J⟩
 |x::r,t,ms,k,i,m,d,o,g,f,p,s=>by
  have B:wz a tt n l (x::r) t ms k i=match wy a tt n l x t ms k i with| .ok m d o g _=>wz a tt n l r m d o g| .no=> .no:=rfl
  have C:x7 a tt n l (x::r) t ms k i s=match wy a tt n l x t ms k i with| .ok m d o g f=>x7 a tt n l r m d o g (f::s)| .no=> .no:=rfl
  rw[B]at p;rw[C];cases A:wy a tt n l x t ms k i with
  |no=>rw[A]at p;cases p
  |ok t1 H L K f1=>
   rw[A]at p
   exact adn p _
def ado(di:cq P tt=ae){u:mY}(H:wG P u){ke:Y}(hn:n<=4^dep){s:Array a4}:∀(L:V a4)(i:Y){gs:V GI}{t:Tr}{ms:Ms}{k:Y}{T:V Y}{U:V Ft}{M:Tr}{m:Ms}{Q:Y}{p:V Y}{v:V Ft},
  x7 u tt n ke gs t ms k T U= .ok M m Q p v->wA dep n s.toList L=ad gs->aA i s.toList=L->ke<=k->dT dep n t k->fv ms k->
  ∃(ds:V (V (Key×Info)×V (Key×ax Info)))(cl:V Y)(kk:V Ks)(fk:V Ft),Steps P n s i L (bh dep n t ms.flatten) (bh dep n M m.flatten) k Q ds cl/\Xr ds kk/\v=fk.reverse++U/\Z fk=Z L/\(∀(d:Y) a o f,kk[d]? =ad a->L[d]? =ad o->fk[d]? =ad f->Ah a (x8 s.toList o) f/\(n9 o=ah->f= .n))/\Left ke dep n t ms k T M m Q p
 |[],i,gs,t,ms,k,T,U,M,m,Q,p,v,y,hc,_,_,W,jL=>by simp only[wA,ar]at hc;subst hc;have h':Rd.ok t ms k T U= .ok M m Q p v:=y;simp only[Rd.ok.injEq]at h';obtain⟨rfl,rfl,rfl,rfl,rfl⟩:=h';refine⟨[],[k],[],[],⟨J,J,J,J,?_,az,az,J⟩,⟨J,λd y=>by simp at y⟩,az,J,λd a o f y=>by simp at y,Left.refl W jL⟩;intro d a b _ h2;simp at h2
 |o::L,i,gs,t,ms,k,T,U,M,m,Q,p,v,y,hc,x,c,W,jL=>by
  simp only[wA]at hc;split at hc
  .rename_i g e hg D;cases hc;have e2:x7 u tt n ke (g::e) t ms k T U=match wy u tt n ke g t ms k T with| .ok M m Q p f=>x7 u tt n ke e M m Q p (f::U)| .no=> .no:=rfl
   rw[e2]at y;split at y
   .rename_i t1 ms1 k1 UH f1 hs;have ho:s[i]? =ad o:=by have:=be (λl=>l[0]?) x;simpa[tT]using this
    have A:aA (i+1) s.toList=L:=by rw[<-qp,x];rfl
    let ⟨⟨ks,⟨rd,wr,E,F,q,hle,G,I⟩,N,z⟩,r⟩:=adl di H c hn ho hg W jL hs;let ⟨ds,cl,kk,fk,B,⟨R,S⟩,Jv,UI,w,hL2⟩:=ado di H hn L (i+1) y D A (bm c z.le) z.dT z.fv;refine⟨(rd,wr)::ds,k::cl,ks::kk,f1::fk,⟨by simp[B.len],by simp[B.YE],J,by simpa using B.last,?_,?_,?_,?_⟩,⟨by simp[R],λd hj hj'=>?_⟩,by rw[Jv];simp,by simp[UI],?_,z.trans hL2⟩
    .intro d a b ha hb;cases d with
     |zero=>
      simp only[m9,ar,ff,wW]at ha hb
      rw[B.first]at hb
      cases hb
      omega
     |succ d=>exact B.mono d a b yI tW
    .intro d hj a b ha hb;cases d with
     |zero=>
      simp only[m9,ar,ff,wW]at ha hb
      rw[B.first]at hb
      cases hb
      subst ha
      simpa using E
     |succ d=>
      have:=B.step d ot a b yI tW
      rw[(O:i+(d+1)=i+1+d)]
      simpa using this
    .intro d hj kx C;cases d with
     |zero=>simp only[vu]at C;simpa[oV]using F kx C
     |succ d=>
      simp only[AU]at C
      have:=B.reads d ot kx C
      rw[q]at this
      simpa[oV]using this
    .rw[B.fin,q];simp[oV]
    .cases d with
     |zero=>exact⟨G,I⟩
     |succ d=>exact S d ot (by simpa using hj')
    .intro d a o' f' ha K X;cases d with
     |zero=>
      simp only[m9,ar]at ha K X
      subst ha K X
      exact⟨N,r⟩
     |succ d=>exact w d a o' f' yI (by simpa using K) (by simpa using X)
   .cases y
  .cases hc
def aoJ(kN:P.follows .mixedOrders=ae){x}{s}{d}{H M}{k y}{m}{L}(A:Steps P x.n d 0 d.toList H M k y m L)
  (Q:s=ae->(∀i o dN,d[i]? =ad o->dN∈o.after->Region.binds .any dN=ae->dN.on<i)/\
   ∀i l,i<l->l<d.size->∀f,((f∈fW (E m i ([],[])).2/\f∈fW (E m l ([],[])).2)\/(f∈fW (E m i ([],[])).2/\f∈dI (E m l ([],[])).1)\/(f∈dI (E m i ([],[])).1/\f∈fW (E m l ([],[])).2))->mC d i l)
 {id}{yb:Exit->Act->World->Prop} (hQ:∀g W a,bx x (·<y) M.kn g W a->yb .normal a W)
 {g}{W}{a}(h0:bx x (·<k) H.kn g W a) (T:AM x.rd d):(Code.region id d s).wpIn (gn x.rd) 0 P yb a W:=by
 have S:Z m=d.size:=by simpa using A.len
 have V:Z L=d.size+1:=by simpa using A.YE
 let c:Y->Y:=λl=>E L l y
 have p:∀l,l<d.size+1->L[l]? =ad (c l):=by intro l C;have:l<Z L:=O;simp only[c,aK,cO this,rh]
 have u:L[d.size]? =ad y:=by simpa using A.last
 have D:∀i,c i<=c (i+1):=by
  intro i;rcases qf i d.size with h|h
  .exact A.mono i _ _ (p i O)<|p (i+1) O
  .have X:c (i+1)=y:=by simp only[c,aK];rw[iX O];rfl
   rcases qf d.size i with q|q
   .have r:c i=y:=by simp only[c,aK];rw[iX O];rfl
    omega
   .have:i=d.size:=by omega
    subst this;have r:c d.size=y:=by simp only[c,aK,u,rh]
    omega
 have w:c 0=k:=by simp only[c,aK,A.first,rh]
 have z:c d.size=y:=by simp only[c,aK,u,rh]
 have G:∀i,i<d.size->vo P x.n d i ((E m i ([],[])).1) ((E m i ([],[])).2) (rj c i):=by intro i h;have:=A.step i O _ _ (p i O)<|p (i+1) O;rw[A5 m _ i O];rw[ff]at this;exact this
 have I:∀i,i<d.size->∀kx∈(E m i ([],[])).1,fold (λi=>(E m i ([],[])).2) H.kn (bX i) kx.1=ad kx.2:=by intro i h kx K;rw[KQ m H.kn i O];rw[A5 m _ i O]at K;exact A.reads i O kx K
 have B:∀g W a,bx x (·<c d.size) (fold (λi=>(E m i ([],[])).2) H.kn<|bX d.size) g W a->yb .normal a W:=by intro g W a N;refine hQ g W a ?_;rw[A.fin];rw[KQ m H.kn d.size O,iY O,z]at N;exact N
 have U:bx x (·<c 0) H.kn g W a:=by rw[w];exact h0
 cases s with
 |false=>exact WT D U G I B T
 |true=>
  let ⟨r,X⟩:=Q J
  exact WU D kN r U G I (λi l v C f a b=>X i l v C f<|.inl ⟨a,b⟩) (λi l v C f a b=>X i l v C f<|.inr<|.inl ⟨a,b⟩) (λi l v C f a b=>X i l v C f<|.inr<|.inr ⟨a,b⟩) B T
def UJ{k g:Y}{m:V Y}:∀{l:V Y},Jm k g m l=ah->∀a∈l,a∉m/\¬(k<=a/\a<g)
 |[],_,a,d=>by cases d
 |x::s,d,a,f=>by
  simp only[Jm]at d;split at d
  .cases d
  .rename_i o;split at d
   .cases d
   .rename_i p;rcases b9.1 f with rfl|f
    .refine⟨λi=>(by rw[Ot.2 i]at o;cases o),λi=>?_⟩;have:(dP k a&&dy a g)=ae:=by simp[Nat.ble_eq,s7,i]
     rw[this]at p;cases p
    .exact UJ d a f
def OA{k:Y}:∀{l:V Y},Jn k l=ah->∀d∈l,k<=d
 |[],_,d,f=>by cases f
 |x::o,f,d,a=>by
  simp only[Jn]at f;split at f
  .cases f
  .rename_i m;rcases b9.1 a with rfl|a
   .rcases qf d k with g|i
    .have:dy d k=ae:=by simpa[s7]using g
     rw[this]at m;cases m
    .exact i
   .exact OA f d a
def UK{l m}:Fy l m=ah->∀d∈l,d∉m:=by
 induction l with
 |nil=>intro _ d h;cases h
 |cons x r g=>
  intro h d a
  simp only[Fy]at h
  split at h
  .cases h
  .rename_i f;rcases b9.1 a with rfl|a
   .intro i;rw[Ot.2 i]at f;cases f
   .exact g h d a
def aoK{f g:Ft}(d:CC f g=ah) id:¬(nC f id/\nC g id)/\¬(nC f id/\se g id)/\¬(se f id/\nC g id):=by
 cases f with
 |n=>simp[nC,se]
 |m r w=>
  cases g with
  |n=>simp[nC,se]
  |m u v=>
   simp only[CC,UL]at d
   exact⟨λa=>UK d.1.1 id a.1 a.2,λa=>UK d.1.2 id a.1 a.2,λa=>UK d.2 id a.1 a.2⟩
  |c k p wl=>
   simp only[CC,UL]at d
   have s:w=[]:=by cases w<;>simp at d⊢
   subst s
   refine⟨by simp[nC],by simp[nC],λa=>?_⟩
   let ⟨l,o⟩:=UJ d.2 id a.1
   rcases a.2 with i|i
   .exact l i.1
   .exact o i
 |c k p wl=>
  cases g with
  |n=>simp[nC,se]
  |m r w=>
   simp only[CC,UL]at d
   refine⟨λa=>?_,λa=>?_,λa=>?_⟩
   .have l:=OA d.1.1 id a.2;have o:=OA d.1.2 id a.2;rcases a.1 with i|i<;>omega
   .let ⟨l,o⟩:=UJ d.2 id a.2;rcases a.1 with i|i
    .exact l i.1
    .exact o i
   .have l:=OA d.1.1 id a.2;have:id<k:=a.1;omega
  |c _ _ _=>simp[CC]at d
def adp{g:V Ft}:∀{l:V (Y×Y)},Fz g l=ae->∀i f,(i,f)∈l->CC (g.getD i .n) (g.getD f .n)=ah
 |[],_,i,f,d=>by cases d
 | (a,p)::s,d,i,f,hm=>by
  simp only[Fz]at d;split at d
  .cases d
  .rename_i m;rcases b9.1 hm with o|hm
   .cases o;exact m
   .exact adp d i f hm
def adq{m j:Y}:∀{l:V a4}{i0 a:Y}{o:a4},l[a]? =ad o->n9 o=ae->i0+a<j->Nat.testBit m (i0+a)=ah->(i0+a,j)∈FB m j l i0
 |[],i0,a,o,h,_,_,_=>by simp at h
 |x::i,i0,0,o,h,ht,d,f=>by simp only[m9,ar]at h;subst h;simp only[jy]at d f⊢;simp only[FB,d,cj,ht,f,DW,Bool.and_self];simp
 |x::i,i0,a+1,o,h,ht,d,f=>by
  have g:=adq (m:=m) (j:=j) (l:=i) (i0:=i0+1) (a:=a) et ht O (by rw[(O:i0+1+a=i0+(a+1))];exact f);rw[(O:i0+1+a=i0+(a+1))]at g;simp only[FB];rw[b O];split
  .exact ko _ g
  .exact g
def adr{opsL:V a4}{i:Y}{v:a4}(y:opsL[i]? =ad v)(d:n9 v=ae):∀{ml:V Y}{os:V a4}{j0 a:Y}{o:a4}{m:Y},ml[a]? =ad m->os[a]? =ad o->n9 o=ae->i<j0+a->Nat.testBit m i=ah->(i,j0+a)∈FC opsL ml os j0
 |[],os,j0,a,o,m,p,_,_,_,_=>by simp at p
 |s::ml,[],j0,a,o,m,_,p,_,_,_=>by simp at p
 |s::ml,x::os,j0,0,o,m,hm,g,ht,f,hb=>by simp only[m9,ar]at hm g;subst hm g;simp only[FC,ht,cj,jy]at f⊢;refine eH _ ?_;have:=adq (m:=s) (j:=j0) (l:=opsL) (i0:=0) (a:=i) y d O tW;simpa using this
 |s::ml,x::os,j0,a+1,o,m,hm,g,ht,f,hb=>by
  have u:=adr y d (ml:=ml) (os:=os) (j0:=j0+1) (a:=a) (by simpa using hm) (by simpa using g) ht O hb;rw[(O:j0+1+a=j0+(a+1))]at u;simp only[FC];split
  .exact gD _ u
  .exact u
end
end Go.El
