/- The fast interpreter, part 1: frames as trees, memory as lists, comparisons: made for the kernel. Own work; no condition. -/
import Derived.Test.YtceihkmakfdcnaaGreatA4
set_option linter.all false
set_option maxHeartbeats 16000000
set_option maxRecDepth 100000
open Bool renaming rec->yO,false->ah,true->af
open Go renaming Operand->dQ,FuncId->jB,Oper->bh,Value->a4,Program->bZ
open Go.El renaming iO->o
open Go.Op renaming operands->abu
open Go.World renaming cell?->Ce
open List renaming rec->ku,length->Z,range->cc,drop->az,take->h,getD->E
open Nat renaming beq->gR,ble->eJ,blt->dk,rec->M3
open Option renaming some->ad
open _root_ renaming List->V,Option->aw,Nat->Y
namespace Go.El
open Go Go.RowKit
inductive D4 where
 |a|b|c|d
inductive T4(f:Type) where
 |e
 |lf (v:f)
 |nd (a b c d:T4 f)
section
variable{α:Type}
noncomputable def iY(p:V D4):T4 α->aw α:=ku (motive:=λ_=>T4 α->aw α)
 (λt=>T4.rec (motive:=λ_=>aw α) none (λv=>ad v) (λ_ _ _ _ _ _ _ _=>none) t)
 (λx _ f t=>T4.rec (motive:=λ_=>aw α) none (λ_=>none) (λa b c d _ _ _ _=>D4.rec (motive:=λ_=>aw α) (f a) (f b) (f c) (f d) x) t) p
noncomputable def jn(p:V D4)(v:α):T4 α->T4 α:=ku (motive:=λ_=>T4 α->T4 α)
 (λ_=> .lf v)
 (λx _ f t=>T4.rec (motive:=λ_=>T4 α)
  (D4.rec (motive:=λ_=>T4 α) (.nd (f .e) .e .e .e) (.nd .e (f .e) .e .e) (.nd .e .e (f .e) .e) (.nd .e .e .e<|f .e) x)
  (λ_=>D4.rec (motive:=λ_=>T4 α) (.nd (f .e) .e .e .e) (.nd .e (f .e) .e .e) (.nd .e .e (f .e) .e) (.nd .e .e .e<|f .e) x)
  (λa b c d _ _ _ _=>D4.rec (motive:=λ_=>T4 α) (.nd (f a) b c d) (.nd a (f b) c d) (.nd a b (f c) d) (.nd a b c<|f d) x) t) p
noncomputable def D2(p:V D4):T4 α->T4 α:=ku (motive:=λ_=>T4 α->T4 α)
 (λ_=> .e)
 (λx _ f t=>T4.rec (motive:=λ_=>T4 α) .e (λ_=> .e)
  (λa b c d _ _ _ _=>D4.rec (motive:=λ_=>T4 α) (.nd (f a) b c d) (.nd a (f b) c d) (.nd a b (f c) d) (.nd a b c<|f d) x) t) p
def yN:∀p:V D4,iY p (.e:T4 α)=none
 |[]=>rfl
 |_::_=>rfl
def H6(v:α):∀(p:V D4)(t:T4 α),iY p (jn p v t)=ad v
 |[],_=>rfl
 |x::p,t=>by cases t<;>cases x<;>exact H6 v p _
def D3(v:α):∀(p a:V D4)(t:T4 α),Z p=Z a->p≠a->iY a (jn p v t)=iY a t
 |[],[],_,_,c=>absurd J c
 |[],_::_,_,c,_=>by simp at c
 |_::_,[],_,c,_=>by simp at c
 |x::p,i::a,t,hl,c=>by
  have d:Z p=Z a:=tX;by_cases f:x=i
  .subst f;have g:p≠a:=λe=>c uA
   cases t<;>cases x<;>first|exact D3 v p a _ d g|exact(D3 v p a _ d g).trans<|yN a
  .cases t<;>cases x<;>cases i<;>first|rfl|exact yN a|exact absurd rfl f
def Sw:∀(p:V D4)(t:T4 α),iY p (D2 p t)=none
 |[],_=>rfl
 |x::p,t=>by cases t<;>cases x<;>first|rfl|exact Sw p _
def Sx:∀(p a:V D4)(t:T4 α),Z p=Z a->p≠a->iY a (D2 p t)=iY a t
 |[],[],_,_,c=>absurd J c
 |[],_::_,_,c,_=>by simp at c
 |_::_,[],_,c,_=>by simp at c
 |x::p,i::a,t,hl,c=>by
  have f:Z p=Z a:=tX;by_cases d:x=i
  .subst d;have g:p≠a:=λe=>c uA
   cases t<;>cases x<;>first|rfl|exact Sx p a _ f g
  .cases t<;>cases x<;>cases i<;>first|rfl|exact absurd rfl d
end
def nr:Y->D4
 |0=> .a
 |1=> .b
 |2=> .c
 |_=> .d
def cP:Y->Y->V D4
 |0,_=>[]
 |n+1,t=>nr (t/4^n)::cP n (t%4^n)
def Sy:∀n t,(cP n t).length=n
 |0,_=>rfl
 |n+1,t=>by simp[cP,Sy n]
def My{a c}(i:a<4)(k:c<4)(d:nr a=nr c):a=c:=by have f:a=0\/a=1\/a=2\/a=3:=G;have g:c=0\/c=1\/c=2\/c=3:=G;rcases f with rfl|rfl|rfl|rfl<;>rcases g with rfl|rfl|rfl|rfl<;>first|rfl| (simp[nr]at d)
def Bc:∀(n:Y){a c:Y},a<4^n->c<4^n->cP n a=cP n c->a=c
 |0,a,c,d,f,_=>by simp at d f;omega
 |n+1,a,c,d,f,g=>by simp only[cP,List.cons.injEq]at g;have i:0<4^n:=kh T;have k:a/4^n=c/4^n:=My (xN<|by rw[fF]at d;omega) (xN<|by rw[fF]at f;omega) g.1;have l:a%4^n=c%4^n:=Bc n (fb _ i) (fb _ i) g.2;rw[<-qx a (4^n),<-qx c (4^n),k,l]
abbrev Tr:=T4 AV
abbrev Mem:=V<|Y×aN
section
variable{α:Type}
noncomputable def lZ(a:Y)(l:V (Y×α)):aw α:=ku (motive:=λ_=>aw α) none
 (λh _ c=>Prod.rec (motive:=λ_=>aw α) (λk x=>yO (motive:=λ_=>aw α) c (ad x)<|gR k a) h) l
noncomputable def H7(a:Y)(v:α)(l:V (Y×α)):V (Y×α):=ku (motive:=λ_=>V<|Y×α) [(a,v)]
 (λh r c=>Prod.rec (motive:=λ_=>V<|Y×α) (λk x=>yO (motive:=λ_=>V<|Y×α) ((k,x)::c) ((a,v)::r)<|gR k a) h) l
def w5(a:Y):∀l:V (Y×α),lZ a l=o a l
 |[]=>rfl
 | (k,x)::r=>by
  have c:=w5 a r;show yO (motive:=λ_=>aw α) (lZ a r) (ad x) (gR k a)=_;simp only[o];by_cases h:k=a
  .subst h;rw[H8,aq J]
  .have:gR k a=ah:=by
    cases d:gR k a
    .rfl
    .exact absurd (kO d) h
   rw[this,b h];exact c
def aaA(a:Y)(v:α):∀l:V (Y×α),H7 a v l=g5 a v l
 |[]=>rfl
 | (k,x)::r=>by
  have c:=aaA a v r;show yO (motive:=λ_=>V<|Y×α) ((k,x)::H7 a v r) ((a,v)::r) (gR k a)=_;simp only[g5];by_cases h:k=a
  .subst h;rw[H8,aq J]
  .have:gR k a=ah:=by
    cases d:gR k a
    .rfl
    .exact absurd (kO d) h
   rw[this,b h];simp only[c]
end
noncomputable def eC(dep n:Y)(t:Tr):V (Y×AV):=(cc n).filterMap λj=>(iY (cP dep j) t).map λv=>(j,v)
noncomputable def bl(dep n:Y)(t:Tr)(m:Mem):St:=⟨eC dep n t,m,0,[]⟩
def aaB{d:Type}(g:Y->aw d)(t:Y):∀l:V Y,o t (l.filterMap λa=>(g a).map λv=>(a,v))=if t∈l then g t else none
 |[]=>rfl
 |a::l=>by
  have c:=aaB g t l;simp only[List.filterMap_cons];cases hg:g a with
  |none=>
   simp only[Option.map_none,c,bY]
   by_cases h:t=a
   .subst h;simp[hg]
   .simp[h]
  |some v=>
   simp only[ud,o,c,bY]
   by_cases h:a=t
   .subst h;simp[hg]
   .have:t≠a:=λe=>h e.symm
    simp[h,this]
def sb dep n t a:o a (eC dep n t)=if a<n then iY (cP dep a) t else none:=by unfold eC;rw[aaB (λa=>iY (cP dep a) t) a];simp only[oW]
def D5(dep n:Y)(t:Tr)(m:Mem):(bl dep n t m).kn=λ| .s a=>((if a<n then iY (cP dep a) t else none)).map .v| .m id=>(o id m).map .b:=by
 funext k;cases k with
 |s a=>simp only[bl,St.kn,sb]
 |m id=>rfl
def aaC dep n(t:Tr) d a v(g:n<=4^dep)(f:d<n):o a (eC dep n<|jn (cP dep d) v t)=if d=a then ad v else o a (eC dep n t):=by
 rw[sb,sb];by_cases h:d=a
 .subst h;simp[f,H6]
 .rw[b h];by_cases c:a<n
  .rw[aq c,aq c,D3 _ _ _ _ D6<|λe=>h<|Bc dep G G e]
  .rw[b c,b c]
def alT dep n(t:Tr) d a(g:n<=4^dep)(f:d<n):o a (eC dep n<|D2 (cP dep d) t)=if d=a then none else o a (eC dep n t):=by
 rw[sb,sb];by_cases h:d=a
 .subst h;simp[f,Sw]
 .rw[b h];by_cases c:a<n
  .rw[aq c,aq c,Sx _ _ _ D6<|λe=>h<|Bc dep G G e]
  .rw[b c,b c]
def D7 dep n(t:Tr)(m:Mem) d v(a:n<=4^dep)(c:d<n):(bl dep n (jn (cP dep d) v t) m).kn=bH (bl dep n t m).kn [(.s d,ad<|.v v)]:=by
 funext k;cases k with
 |s j=>
  simp only[bl,St.kn,bH,aE,Key.s.injEq,aaC dep n t d j v a c]
  split<;>simp
 |m id=>simp[bl,St.kn,bH,aE]
def alU dep n(t:Tr)(m:Mem) d(a:n<=4^dep)(c:d<n):(bl dep n (D2 (cP dep d) t) m).kn=bH (bl dep n t m).kn [(.s d,none)]:=by
 funext k;cases k with
 |s j=>
  simp only[bl,St.kn,bH,aE,Key.s.injEq,alT dep n t d j a c]
  split<;>simp
 |m id=>simp[bl,St.kn,bH,aE]
def aaD dep n t(m d:Mem) wr(f:∀a,(o a d).map Info.b=bH (bl dep n t m).kn wr (.m a))(g:∀c,aE wr (.s c)=none):(bl dep n t d).kn=bH (bl dep n t m).kn wr:=by
 funext k;cases k with
 |s c=>simp[bl,St.kn,bH,g c]
 |m a=>exact f a
def MW:Int->Int->Bool
 | .ofNat m,.ofNat n=>eJ m n
 | .negSucc _,.ofNat _=>af
 | .negSucc m,.negSucc n=>eJ n m
 | .ofNat _,.negSucc _=>ah
def Sz:Int->Int->Bool
 | .ofNat m,.ofNat n=>gR m n
 | .negSucc m,.negSucc n=>gR m n
 |_,_=>ah
def aaE a c:MW a c=decide (a<=c):=by cases a<;>cases c<;>simp only[MW]<;>rw[Bool.eq_iff_iff]<;>simp[Nat.ble_eq]<;>omega
def alV a c:Sz a c=decide (a=c):=by cases a<;>cases c<;>simp only[Sz]<;>rw[Bool.eq_iff_iff]<;>simp<;>omega
def MY:Int->Bool
 | .ofNat m=>dk m 9223372036854775808
 | .negSucc m=>dk m 9223372036854775808
def alW{n}(a:MY n=af):fR n:=by
 cases n with
 |ofNat m=>simp only[MY,rP]at a;unfold fR;simp only[Int.ofNat_eq_natCast];omega
 |negSucc m=>simp only[MY,rP]at a;unfold fR;omega
def tC:Pr->Bool
 | .t=>af
 | .i64 n=>MY n
 | .zB c=>Bool.not<|Sz c 0
 | .le a c=>MW a c
 | .lt a c=>Bool.not<|MW c a
 | .zC a c=>dk a c
 | .sy a c=>a==c
 | .and p d=>match tC p with
  |true=>tC d
  |false=>ah
def D8:∀{p:Pr},tC p=af->p.h
 | .t,_=>trivial
 | .i64 _,c=>alW c
 | .zB d,c=>by simp only[tC,alV]at c;simpa[Pr.h]using c
 | .le a d,c=>by simp only[tC,aaE]at c;simpa[Pr.h]using c
 | .lt a d,c=>by simp only[tC,aaE]at c;simpa[Pr.h]using c
 | .zC a d,c=>by simpa[tC,Pr.h,rP]using c
 | .sy a d,c=>by simpa[tC,Pr.h]using c
 | .and p g,c=>by
  simp only[tC]at c;split at c
  .rename_i f;exact⟨D8 f,D8 c⟩
  .cases c
def D9(k:Y):C->Bool
 | .P id _=>dk id k
 | .X id=>dk id k
 | .Y id _ _ _=>dk id k
 | .L id _ _ _=>dk id k
 | .W id _ _=>dk id k
 |_=>af
def aaF{k}{c}(a:D9 k c=af):∀d∈c.ak,d<k:=by cases c<;>simp only[D9,C.ak,rP]at a⊢<;>simp<;>exact a
noncomputable def tD(k:Y)(l:V C):Bool:=ku (motive:=λ_=>Bool) af (λc _ a=>yO (motive:=λ_=>Bool) ah a<|D9 k c) l
def yP{k:Y}:∀{l:V C},tD k l=af->∀d∈b7 l,d<k
 |[],_=>by simp[b7]
 |c::r,g=>by
  have f:yO (motive:=λ_=>Bool) ah (tD k r) (D9 k c)=af:=g;cases hc:D9 k c with
  |false=>rw[hc]at f;cases f
  |true=>
   rw[hc]at f
   intro d a
   simp only[b7,bg]at a
   rcases a with a|a
   .exact aaF hc d a
   .exact yP f d a
noncomputable def H9(k:Y)(l:V (Bool×V C)):Bool:=ku (motive:=λ_=>Bool) af (λc _ a=>yO (motive:=λ_=>Bool) ah a<|tD k c.2) l
def MZ{k:Y}:∀{l:V (Bool×V C)},H9 k l=af->∀d∈fP l,d<k
 |[],_=>by simp[fP]
 |c::r,g=>by
  have f:yO (motive:=λ_=>Bool) ah (H9 k r) (tD k c.2)=af:=g;cases hc:tD k c.2 with
  |false=>rw[hc]at f;cases f
  |true=>
   rw[hc]at f
   intro d a
   simp only[fP,bg]at a
   rcases a with a|a
   .exact yP hc d a
   .exact MZ f d a
noncomputable def aaG(k:Y):AV->Bool
 | .c x=>D9 k x
 | .a cs=>tD k cs
 | .t d=>H9 k d
def alX{k}{v}(d:aaG k v=af):∀f∈v.ak,f<k:=by
 cases v with
 |c x=>exact aaF d
 |a cs=>exact yP d
 |t g=>exact MZ d
inductive Pd where
 |s (p:V D4)
 |k (v:AV)
noncomputable def jA(t:Tr):Pd->aw AV
 | .s p=>iY p t
 | .k v=>ad v
noncomputable def w6(t:Tr)(l:V Pd):aw (V AV):=ku (motive:=λ_=>aw<|V AV) (ad [])
 (λx _ a=>match jA t x with
  |some v=>(match a with
   |some vs=>ad<|v::vs
   |none=>none)
  |none=>none) l
def hZ(dep n:Y):dQ->aw Pd
 | .tmp a=>(match dk a n with
  |true=>ad<|.s<|cP dep a
  |false=>none)
 | .const v=>ad<|.k<|B0 v
 | .func f=>ad<|.k<|.c<|.V<|.func (.func f) #[] #[]
 | .global _=>none
def w7(dep n:Y):V dQ->aw (V Pd)
 |[]=>ad []
 |x::xs=>(match hZ dep n x,w7 dep n xs with
  |some p,ad ps=>ad<|p::ps
  |_,_=>none)
abbrev Ms:=V Mem
noncomputable def bu(a:Y)(c:Ms):aw aN:=ku (motive:=λ_=>aw aN) none
 (λm _ d=>match lZ a m with
  |some b=>ad b
  |none=>d) c
noncomputable def pT(a:Y)(c:aN)(d:Ms):Ms:=ku (motive:=λ_=>Ms) []
 (λm r f=>match lZ a m with
  |some _=>H7 a c m::r
  |none=>m::f) d
def tE(a:Y):Ms->Ms
 |[]=>[]
 |m::r=>rI a m::tE a r
def yQ(k:Y)(a:aN):Ms->Ms
 |m::r=>((k,a)::m)::r
 |[]=>[[(k,a)]]
def iZ(a:Y):∀c:Ms,o a c.flatten=bu a c
 |[]=>rfl
 |m::r=>by
  have d:=iZ a r;show _=match lZ a m with|some b=>ad b|none=>bu a r
  rw[JS,F5,w5,d];cases o a m<;>rfl
def Ea(c a:Y)(d:aN):∀g:Ms,bu c (pT a d g)=match bu a g with
  |some _=>if a=c then ad d else bu c g
  |none=>bu c g
 |[]=>rfl
 |m::r=>by
  have k:=Ea c a d r;have i:∀c(m:Mem)(r:Ms),bu c (m::r)=match lZ c m with|some d=>ad d|none=>bu c r:=λ_ _ _=>rfl
  have l:pT a d (m::r)=match lZ a m with|some _=>H7 a d m::r|none=>m::pT a d r:=rfl
  rw[l,i a m r];cases h:lZ a m with
  |some x=>
   simp only[i,w5,aaA,nM]
   by_cases f:a=c
   .simp[f]
   .simp[f]
  |none=>
   simp only[i,k]
   cases h2:bu a r with
   |none=>rfl
   |some x=>
    by_cases f:a=c
    .subst f;simp[h]
    .simp[f]
def Bd(a c:Y):∀d:Ms,bu a (tE c d)=if c=a then none else bu a d
 |[]=>by simp[tE,bu]
 |m::r=>by
  have f:=Bd a c r;have g:∀a(m:Mem)(r:Ms),bu a (m::r)=match lZ a m with|some b=>ad b|none=>bu a r:=λ_ _ _=>rfl
  simp only[tE,g,w5,zO,f];by_cases i:c=a<;>simp[i]
def Ia a k c ms:bu a (yQ k c ms)=if k=a then ad c else bu a ms:=by
 have d:∀a(m:Mem)(r:Ms),bu a (m::r)=match lZ a m with|some c=>ad c|none=>bu a r:=λ_ _ _=>rfl
 cases ms with
 |nil=>simp only[yQ,d,w5,o];by_cases h:k=a<;>simp[h,bu]
 |cons m r=>simp only[yQ,d,w5,o];by_cases h:k=a<;>simp[h]
inductive Ft where
 |n
 |m (rd a:V Y)
 |c (k d:Y) (f:V Y)
inductive Rs where
 |no
 |ok (t:Tr) (ms:Ms) (k:Y) (a:V Y) (f:Ft)
inductive Cr where
 |no
 |ok (r:AV) (ms:Ms) (k:Y) (a:V Y)
abbrev l6:=jB->V AV->Ms->Y->Cr
inductive M0 where
 |mv (d:V D4) (x:Pd)
 |bin (d:V D4) (op:BinOp) (a:Y) (x c:Pd)
 |idx (d:V D4) (a:Y) (x i:Pd)
 |fad (d:V D4) (a:Y) (x:Pd) (f:Y)
 |ext (d:V D4) (x:Pd) (k:Y)
 |len (d:V D4) (a:Y) (x:Pd)
 |ld (d:V D4) (a:Y) (x:Pd)
 |st (a:Y) (x c:Pd)
 |gen (d:aw (Y×V D4)) (sl:V (Y×V D4)) (op:Op)
 |call (d:V D4) (f:jB) (args:V Pd)
 |aaI (d:V D4) (x:Pd) (args:V Pd)
noncomputable def tF(d:V D4)(v:AV)(t:Tr)(a:Ms)(k:Y)(c:V Y)(f:Ft):Rs:=match aaG k v with
 |true=> .ok (jn d v t) a k c f
 |false=> .no
noncomputable def M1(d:V D4)(r:aw (AV×Pr))(t:Tr)(a:Ms)(k:Y)(c:V Y):Rs:=match r with
 |some (v,p)=>(match tC p with
  |true=>tF d v t a (k+1) c .n
  |false=> .no)
 |none=> .no
def aaJ(a:TT)(c:Y)(v d:AV):aw (AV×Pr):=match J9 a c v d with
 |some r=>ad r
 |none=>Jp a c v d
def aaK(a:TT)(c:Y)(v:AV):aw AV:=match J' a c v with
 |some r=>ad r
 |none=>E5 a c v
noncomputable def M2(l:V C):Y->aw C:=ku (motive:=λ_=>Y->aw C) (λ_=>none) (λc _ a n=>M3 (motive:=λ_=>aw C) (ad c) (λm _=>a m) n) l
noncomputable def aaL(n:Y):V C->V C:=M3 (motive:=λ_=>V C->V C) (λl=>l) (λ_ a l=>ku (motive:=λ_=>V C) [] (λ_ r _=>a r) l) n
def Be(c:C):aw (V C)->aw (V C)
 |some r=>ad<|c::r
 |none=>none
noncomputable def SA(n:Y):V C->aw (V C):=M3 (motive:=λ_=>V C->aw (V C)) (λ_=>ad []) (λ_ a l=>ku (motive:=λ_=>aw<|V C) none (λc r _=>Be c<|a r) l) n
noncomputable def SB(a:V C):V C->aw (V C):=ku (motive:=λ_=>V C->aw (V C)) (λl=>ad l) (λu _ c l=>ku (motive:=λ_=>aw<|V C) none (λ_ r _=>Be u<|c r) l) a
noncomputable def SC(d:V C)(a:Y):V C->aw (V C):=M3 (motive:=λ_=>V C->aw (V C)) (SB d) (λ_ f l=>ku (motive:=λ_=>aw<|V C) none (λc r _=>Be c<|f r) l) a
def aaM:∀(l:V C)(n:Y),M2 l n=l[n]?
 |[],n=>by simp[M2]
 |c::r,0=>rfl
 |c::r,n+1=>by show M2 r n=_;rw[aaM r n,vo]
def aaN:∀(n:Y)(l:V C),aaL n l=az n l
 |0,l=>rfl
 |n+1,[]=>rfl
 |n+1,c::r=>aaN n r
def SD{c}{a}{x}(d:Be c a=ad x):∃r,a=ad r/\x=c::r:=by
 cases a with
 |none=>cases d
 |some r=>cases d;exact⟨r,J,J⟩
def aaO:∀(n:Y)(l x:V C),SA n l=ad x->n<=Z l/\x=h n l
 |0,l,x,a=>by cases a;exact⟨be _,J⟩
 |n+1,[],x,a=>by cases a
 |n+1,c::r,x,a=>by obtain⟨d,f,rfl⟩:=SD (show Be c (SA n r)=ad x from a);let ⟨g,h2⟩:=aaO n r d f;exact⟨by simpa using g,by simp[h2]⟩
def aaP:∀(a l x:V C),SB a l=ad x->Z a<=Z l/\x=a++az (Z a) l
 |[],l,x,d=>by cases d;exact⟨be _,J⟩
 |u::a,[],x,d=>by cases d
 |u::a,c::r,x,d=>by obtain⟨f,g,rfl⟩:=SD (show Be u (SB a r)=ad x from d);let ⟨i,h2⟩:=aaP a r f g;exact⟨by simpa using i,by simp[h2]⟩
def aaQ(d:V C):∀(a:Y)(l x:V C),SC d a l=ad x->a+Z d<=Z l/\x=cN l d a
 |0,l,x,f=>by let ⟨g,h2⟩:=aaP d l x f;exact⟨G,by simp[cN,h2]⟩
 |a+1,[],x,f=>by cases f
 |a+1,c::r,x,f=>by obtain⟨y,i,rfl⟩:=SD (show Be c (SC d a r)=ad x from f);let ⟨g,h2⟩:=aaQ d a r y i;refine⟨bX,?_⟩;simp[cN,h2,(G:a+1+Z d=a+Z d+1)]
noncomputable def Ib(f:V C)(d sz:Y)(g:Bool):aw AV:=match g with
 |true=>(match SA sz (aaL d f)with
  |some x=>ad<|.a x
  |none=>none)
 |false=>(match M2 f d with
  |some c=>ad<|.c c
  |none=>none)
def SE{f}{d sz}{g}{x}(a:Ib f d sz g=ad x)(l:sz=0->d<=Z f):mY f d sz g=ad x:=by
 unfold Ib at a;unfold mY;split at a
 .split at a
  .rename_i y m;cases a;let ⟨i,h2⟩:=aaO _ _ _ m;rw[aaN]at i h2;rw[aq J,aq (by simp at i;by_cases n:sz=0;have:=l n;omega;omega),h2]
  .cases a
 .split at a
  .rename_i c k;cases a;rw[aaM]at k;simp[k]
  .cases a
noncomputable def SF(d:TT)(f:Ms)(g:Y)(v:AV):aw (AV×V Y):=match oY d g with
 |some (0,_)=>none
 |some (sz,a)=>(match v with
  | .c (.P id off)=>(match bu id f with
   |some (.box _ _ cs)=>(match Ib cs off sz a with
    |some y=>ad (y,[id])
    |none=>none)
   |some (.fz _ cs)=>(match Ib cs off sz a with
    |some y=>ad (y,[id])
    |none=>none)
   |_=>none)
  | .c (.E T e off)=>(match Ib (av T e) off sz a with
   |some y=>ad (y,[])
   |none=>none)
  |_=>none)
 |none=>none
def M4:V C->Bool
 |[]=>af
 |c::r=>match jI c with
  |true=>M4 r
  |false=>ah
def aaR:∀{l:V C},M4 l=af->l.all jI=af
 |[],_=>rfl
 |c::r,a=>by
  simp only[M4]at a;split at a
  .rename_i d;simp[d,aaR a]
  .cases a
noncomputable def aaS(d c sz:Y)(a:V C):aw aN->aw (Y×aN×V C)
 |some (.box f g cs)=>(match gR (Z a) sz&&M4 a with
  |true=>(match SC a c cs with
   |some x=>ad (d,.box f g x,a)
   |none=>none)
  |false=>none)
 |_=>none
noncomputable def SG(a:TT)(d:Ms)(f:Y)(x v:AV):aw (Y×aN×V C):=match oY a f,x,jX v with
 |some (sz,_),.c (.P id off),ad us=>aaS id off sz us<|bu id d
 |_,_,_=>none
def Bf(d a:Y)(c:V Y):V Y:=match dk a d with
 |true=>a::c
 |false=>c
def M5(d:Y)(a c:V Y):V Y:=match a with
 |[]=>c
 |_=>a.filter (λf=>dk f d)++c
noncomputable def M6(k:Y):V (V C×V C)->Bool
 |[]=>af
 |x::r=>match tD k x.1 with
  |true=>(match tD k x.2 with
   |true=>M6 k r
   |false=>ah)
  |false=>ah
def aaT{k:Y}:∀{xs:V (V C×V C)},M6 k xs=af->∀c∈mh xs,c<k
 |[],_,c,a=>by simp[mh]at a
 |x::r,d,c,a=>by
  simp only[M6]at d;split at d
  .rename_i f;split at d
   .rename_i g;simp only[mh,bg]at a;rcases a with a|a|a
    .exact yP f c a
    .exact yP g c a
    .exact aaT d c a
   .cases d
  .cases d
noncomputable def Ic(k:Y):aN->Bool
 | .box _ _ cs=>tD k cs
 | .vec _ _ _=>af
 | .jG _ a c=>match H9 k a with
  |true=>H9 k c
  |false=>ah
 | .fz _ cs=>tD k cs
 | .mp _ _ xs=>M6 k xs
 | .it m _ _=>dk m k
def aaU{k}{g}(c:Ic k g=af):∀i∈g.ak,i<k:=by
 cases g with
 |box E z cs=>exact yP c
 |vec E T xs=>simp[aN.ak]
 |jG f a g=>
  simp only[Ic]at c
  split at c
  .rename_i l;intro i d;simp only[aN.ak,bg]at d;exact d.elim (MZ l i)<|MZ c i
  .cases c
 |fz E cs=>exact yP c
 |mp p r xs=>exact aaT c
 |it m n seen=>simpa[aN.ak,Ic]using c
noncomputable def nt(c:V (Y×V D4))(t:Tr):V (Y×AV):=ku (motive:=λ_=>V<|Y×AV) []
 (λx _ a=>match iY x.2 t with
  |some v=>(x.1,v)::a
  |none=>a) c
def yR:V (Y×AV)->V Y
 |[]=>[]
 | (_,v)::r=>v.ak++yR r
noncomputable def sc(a:V Y)(f:Ms):Mem:=ku (motive:=λ_=>Mem) []
 (λc _ d=>match bu c f with
  |some b=>(c,b)::d
  |none=>d) a
def aaV:F3:=λ_ _ _ _=>none
def mK:V Key->V Y
 |[]=>[]
 | .m id::r=>id::mK r
 | .s _::r=>mK r
def wS(d:aw Y):V Key->Bool
 |[]=>af
 | .m _::r=>wS d r
 | .s a::r=>(match d with
  |some d=>(match gR d a with
   |true=>wS (ad d) r
   |false=>ah)
  |none=>ah)
def Bg(a:Y):V Y->Bool
 |[]=>ah
 |x::r=>match gR x a with
  |true=>af
  |false=>Bg a r
def rS(a:V Y):V Key->Bool
 |[]=>af
 | .m _::r=>rS a r
 | .s c::r=>(match Bg c a with
  |true=>rS a r
  |false=>ah)
noncomputable def Bh(k l:Y)(m d:Mem)(g:V Y):Ms->V Y->aw (Ms×V Y):=ku (motive:=λ_=>Ms->V Y->aw (Ms×V Y))
 (λc f=>ad (c,f))
 (λa _ i c f=>match lZ a d with
  |some b=>(match Ic (k+1) b with
   |true=>(match gR a k with
    |true=>i (yQ k b c) f
    |false=>(match bu a c with
     |some _=>i (pT a b c)<|Bf l a f
     |none=>none))
   |false=>none)
  |none=>(match lZ a m with
   |some _=>i (tE a c)<|Bf l a f
   |none=>none)) g
noncomputable def SH(r:TT)(n A:Y)(d:aw (Y×V D4))(B:V (Y×V D4))(op:Op)(t:Tr)(u:Ms)(k:Y)(x:V Y)(c:V (Y×AV))(l:Mem):Rs:=
 match PX aaV r n k (d.map (·.1)) op ⟨c,l,0,[]⟩with
 |some (f,C,a)=>(match gR C (k+1)&&wS (d.map (·.1)) a.2&&rS (B.map (·.1)) a.1 with
  |true=>(match Bh k A l f.mem (mK a.2) u x with
   |some (g,i)=>(match d with
    |none=> .ok t g (k+1) i<|.m (mK a.1)<|mK a.2
    |some (F,p)=>(match o F f.sl with
     |some v=>tF p v t g (k+1) i<|.m (mK a.1)<|mK a.2
     |none=> .no))
   |none=> .no)
  |false=> .no)
 |none=>(match d with
  |some (_,p)=>M1 p (uj r ⟨c,l,0,[]⟩ op) t u k x
  |none=> .no)
noncomputable def Ec(g:l6)(m:Y)(d:V D4)(f:jB)(vs:V AV)(t:Tr)(n:Ms)(k:Y)(p:V Y):Rs:=match g f vs n k with
 | .ok r i l a=>tF d r t i l (M5 m a p)<|.c k l a
 | .no=> .no
noncomputable def SI(d:V D4)(x:Pd)(t:Tr)(a:Ms)(k:Y)(c:V Y):Rs:=match jA t x with
 |some v=>tF d v t a (k+1) c .n
 |none=> .no
noncomputable def aaW(f:TT)(d:V D4)(op:BinOp)(g:Y)(a i:C)(t:Tr)(l:Ms)(k:Y)(m:V Y):Rs:=match P0 f op g (.c a) (.c i)with
 |some u=>tF d u t l (k+1) m .n
 |none=> .no
noncomputable def aaX(d:V D4)(c:C)(p:Pr)(t:Tr)(a:Ms)(k:Y)(f:V Y):Rs:=match tC p with
 |true=> .ok (jn d (.c c) t) a (k+1) f .n
 |false=> .no
noncomputable def aaY(f:TT)(d:V D4)(op:BinOp)(g:Y)(a i:C)(t:Tr)(l:Ms)(k:Y)(m:V Y):Rs:=match B4 f op g a i with
 |some (c,p)=>aaX d c p t l k m
 |none=>aaW f d op g a i t l k m
noncomputable def aaZ(f:TT)(d:V D4)(op:BinOp)(g:Y)(x i:Pd)(t:Tr)(l:Ms)(k:Y)(m:V Y):Rs:=match jA t x,jA t i with
 |some (.c a),ad (.c b)=>aaY f d op g a b t l k m
 |_,_=> .no
noncomputable def aa0(a:TT)(d:V D4)(c:Y)(x i:Pd)(t:Tr)(f:Ms)(k:Y)(g:V Y):Rs:=match jA t x,jA t i with
 |some v,ad w=>M1 d (aaJ a c v w) t f k g
 |_,_=> .no
noncomputable def aa1(a:TT)(d:V D4)(c:Y)(x:Pd)(f:Y)(t:Tr)(g:Ms)(k:Y)(i:V Y):Rs:=match jA t x with
 |some v=>(match Jm a c v f with
  |some u=>tF d u t g (k+1) i .n
  |none=> .no)
 |none=> .no
noncomputable def aa2(d:V D4)(x:Pd)(a:Y)(t:Tr)(c:Ms)(k:Y)(f:V Y):Rs:=match jA t x with
 |some v=>(match Jn v a with
  |some u=>tF d u t c (k+1) f .n
  |none=> .no)
 |none=> .no
noncomputable def aa3(a:TT)(d:V D4)(c:Y)(x:Pd)(t:Tr)(f:Ms)(k:Y)(g:V Y):Rs:=match jA t x with
 |some v=>(match aaK a c v with
  |some u=>tF d u t f (k+1) g .n
  |none=> .no)
 |none=> .no
noncomputable def aa4(c:TT)(d:V D4)(f:Y)(x:Pd)(t:Tr)(a:Ms)(k:Y)(g:V Y):Rs:=match jA t x with
 |some v=>(match SF c a f v with
  |some (u,ids)=>tF d u t a (k+1) g<|.m ids []
  |none=> .no)
 |none=> .no
noncomputable def aa5(c a:Y)(d:aN)(f:V C)(t:Tr)(g:Ms)(k:Y)(i:V Y):Rs:=match tD k f with
 |true=> .ok t (pT a d g) (k+1) (Bf c a i)<|.m [a] [a]
 |false=> .no
noncomputable def aa6(c:TT)(d:Y)(f:Y)(x g:Pd)(t:Tr)(a:Ms)(k:Y)(i:V Y):Rs:=match jA t x,jA t g with
 |some v,ad w=>(match SG c a f v w with
  |some (id,b,us)=>aa5 d id b us t a k i
  |none=> .no)
 |_,_=> .no
noncomputable def alY(g:TT)(n i:Y)(d:aw (Y×V D4))(c:V (Y×V D4))(op:Op)(t:Tr)(f:Ms)(k:Y)(l:V Y):Rs:=match nt c t with
 |a=>SH g n i d c op t f k l a<|sc (yR a) f
noncomputable def aa7(a:l6)(c:Y)(d:V D4)(f:jB)(args:V Pd)(t:Tr)(g:Ms)(k:Y)(i:V Y):Rs:=match w6 t args with
 |some vs=>Ec a c d f vs t g k i
 |none=> .no
noncomputable def aa8(a:l6)(l:Y)(d:V D4)(x:Pd)(args:V Pd)(t:Tr)(i:Ms)(k:Y)(m:V Y):Rs:=match w6 t args with
 |some vs=>(match jA t x with
  |some (.c<|.V<|.func (.func f) ⟨[]⟩ ⟨[]⟩)=>Ec a l d f vs t i k m
  |some (.c<|.X id)=>(match bu id i with
   |some (.jG f first g)=>(match rN first,rN g with
    |some us,ad ws=>Ec a l d f (us++(vs++ws)) t i k m
    |_,_=> .no)
   |_=> .no)
  |_=> .no)
 |none=> .no
noncomputable def pU(c:l6)(a:TT)(n g:Y)(i:M0):Tr->Ms->Y->V Y->Rs:=match i with
 | .mv d x=>SI d x
 | .bin d op ty x y=>aaZ a d op ty x y
 | .idx d ty x i=>aa0 a d ty x i
 | .fad d ty x f=>aa1 a d ty x f
 | .ext d x j=>aa2 d x j
 | .len d ty x=>aa3 a d ty x
 | .ld d ty x=>aa4 a d ty x
 | .st ty x y=>aa6 a g ty x y
 | .gen d sl op=>alY a n g d sl op
 | .call d f args=>aa7 c g d f args
 | .aaI d x args=>aa8 c g d x args
structure GI where
 g:aw (V D4×Bool)
 d:aw (V D4)
 i:M0
noncomputable def uR(a:l6)(m:TT)(n p:Y)(x:GI)(t:Tr)(f:Ms)(k:Y)(l:V Y):Rs:=match x.g with
 |none=>pU a m n p x.i t f k l
 |some (r,want)=>(match iY r t with
  |some (.c<|.B b)=>(match b==want with
   |true=>pU a m n p x.i t f k l
   |false=>(match x.d with
    |some d=> .ok (D2 d t) f (k+1) l .n
    |none=> .no))
  |_=> .no)
noncomputable def uS(a:l6)(i:TT)(n m:Y)(l:V GI):Tr->Ms->Y->V Y->Rs:=ku (motive:=λ_=>Tr->Ms->Y->V Y->Rs)
 (λt c k d=> .ok t c k d .n)
 (λx _ p t c k d=>match uR a i n m x t c k d with
  | .ok r f u g _=>p r f u g
  | .no=> .no) l
inductive Rd where
 |no
 |ok (t:Tr) (ms:Ms) (k:Y) (a:V Y) (fs:V Ft)
noncomputable def w8(a:l6)(p:TT)(n r:Y)(l:V GI):Tr->Ms->Y->V Y->V Ft->Rd:=ku (motive:=λ_=>Tr->Ms->Y->V Y->V Ft->Rd)
 (λt c k d g=> .ok t c k d g)
 (λx _ u t c k d g=>match uR a p n r x t c k d with
  | .ok v i A m f=>u v i A m<|f::g
  | .no=> .no) l
def Ed:V Y->V Y->Bool
 |[],_=>ah
 |x::r,l=>match Bg x l with
  |true=>af
  |false=>Ed r l
def Ie(k a:Y)(c:V Y):V Y->Bool
 |[]=>ah
 |x::r=>match Bg x c with
  |true=>af
  |false=>(match eJ k x&&dk x a with
   |true=>af
   |false=>Ie k a c r)
def If(k:Y):V Y->Bool
 |[]=>ah
 |x::r=>match dk x k with
  |true=>af
  |false=>If k r
def Bi:Ft->Ft->Bool
 | .n,_=>ah
 |_,.n=>ah
 | .m r a,.m g f=>Ed a f||Ed a g||Ed r f
 | .m r a,.c k d wl=> !a.isEmpty||Ie k d wl r
 | .c k d wl,.m r a=>If k a||If d a||Ie k d wl r
 | .c _ _ _,.c _ _ _=>af
def Ee(a:V Ft):V (Y×Y)->Bool
 |[]=>af
 | (i,c)::r=>match Bi (a.getD i .n) (a.getD c .n)with
  |true=>ah
  |false=>Ee a r
def oH:Op->V dQ
 | .call ⟨.value a,args,_⟩=>a::args.toList
 |op=>op.operands.toList
def slotsOf:V dQ->V Y
 |[]=>[]
 | .tmp a::r=>a::slotsOf r
 |_::r=>slotsOf r
def Ef(dep n:Y):V Y->aw (V<|Y×V D4)
 |[]=>ad []
 |a::r=>(match dk a n,Ef dep n r with
  |true,ad l=>ad<|(a,cP dep a)::l
  |_,_=>none)
def M7(dep n:Y)(d:aw Y)(op:Op):aw M0:=match Ef dep n (slotsOf op.operands.toList)with
 |some sl=>(match d with
  |some d=>ad<|.gen (ad (d,cP dep d)) sl op
  |none=>ad<|.gen none sl op)
 |none=>none
def Ig(dep n:Y)(d:aw Y)(op:Op):aw M0:=match d with
 |none=>(match op with
  | .store t x y=>(match hZ dep n x,hZ dep n y with
   |some p,ad q=>ad<|.st t p q
   |_,_=>none)
  |op=>M7 dep n none op)
 |some d=>(match dk d n with
  |false=>none
  |true=>(match op with
   | .move x=>(match hZ dep n x with
    |some p=>ad<|.mv (cP dep d) p
    |none=>none)
   | .assign x=>(match hZ dep n x with
    |some p=>ad<|.mv (cP dep d) p
    |none=>none)
   | .binOp o t x y _=>(match hZ dep n x,hZ dep n y with
    |some p,ad q=>ad<|.bin (cP dep d) o t p q
    |_,_=>none)
   | .indexAddr t x y=>(match hZ dep n x,hZ dep n y with
    |some p,ad q=>ad<|.idx (cP dep d) t p q
    |_,_=>none)
   | .fieldAddr t x f=>(match hZ dep n x with
    |some p=>ad<|.fad (cP dep d) t p f
    |none=>none)
   | .extract x j=>(match hZ dep n x with
    |some p=>ad<|.ext (cP dep d) p j
    |none=>none)
   | .load t x=>(match hZ dep n x with
    |some p=>ad<|.ld (cP dep d) t p
    |none=>none)
   | .call ⟨.value<|.func f,args,_⟩=>(match w7 dep n args.toList with
    |some ps=>ad<|.call (cP dep d) f ps
    |none=>none)
   | .call ⟨.value<|.tmp j,args,_⟩=>(match hZ dep n (.tmp j),w7 dep n args.toList with
    |some p,ad ps=>ad<|.aaI (cP dep d) p ps
    |_,_=>none)
   | .call ⟨.builtin .len,⟨[x]⟩,⟨[t]⟩⟩=>(match hZ dep n x with
    |some p=>ad<|.len (cP dep d) t p
    |none=>none)
   |op=>M7 dep n (ad d) op))
def SJ(dep n:Y)(a:V bh)(c:bh):aw GI:=match Ig dep n c.dst c.op with
 |some i=>(match c.guard with
  |none=>ad ⟨none,none,i⟩
  |some (j,want)=>(match nH a j with
   |some f=>(match dk f n with
    |true=>(match c.dst with
     |some d=>ad ⟨ad (cP dep f,want),ad<|cP dep d,i⟩
     |none=>ad ⟨ad (cP dep f,want),none,i⟩)
    |false=>none)
   |none=>none))
 |none=>none
def uT(dep n:Y)(a:V bh):V bh->aw (V GI)
 |[]=>ad []
 |c::os=>(match SJ dep n a c,uT dep n a os with
  |some g,ad gs=>ad<|g::gs
  |_,_=>none)
def xa(a:V bh)(c:bh):Ks:=
 ((match c.guard with
  |none=>bF<|oH c.op
  |some (j,_)=>(match nH a j with
   |some f=> .s f::bF (oH c.op)
   |none=>bF<|oH c.op)),
  match c.dst with
  |some d=>[.s d]
  |none=>[])
def nv(a:bh):Bool:=match a.dst with
 |none=>af
 |some _=>(match a.op with
  | .move _=>ah
  | .assign _=>ah
  | .binOp _ _ _ _ _=>ah
  | .indexAddr _ _ _=>ah
  | .fieldAddr _ _ _=>ah
  | .extract _ _=>ah
  |_=>af)
def Eg(m a:Y):V bh->Y->V (Y×Y)
 |[],_=>[]
 |c::os,i=>if i<a then(if nv c&& !m.testBit i then(i,a)::Eg m a os (i+1)else Eg m a os (i+1))else[]
def Eh(a:V bh):V Y->V bh->Y->V (Y×Y)
 |m::ms,d::os,c=>if nv d then Eg m c a 0++Eh a ms os (c+1)else Eh a ms os (c+1)
 |_,_,_=>[]
def M8(dep n:Y)(a:V bh)(c:Bool):aw (V GI×aw (V<|Y×Y)):=match uT dep n a a with
 |some gs=>(match c with
  |false=>ad (gs,none)
  |true=>if rJ a (a.map<|xa a)=af then ad (gs,ad<|Eh a (oZ a []) a 0)else none)
 |none=>none
def Ei{a c:Type}(f:a->c->Bool):V a->V c->Bool
 |[],[]=>af
 |x::xs,d::g=>f x d&&Ei f xs g
 |_,_=>ah
def kv.tG:ET->ET->Bool
 | .int k,.int a=>decide<|k=a
 | .bool,.bool=>af
 | .z,.z=>af
 | .q,.q=>af
 | .sl c,.sl d=>kv.tG c d
 | .pr A B,.pr f g=>kv.tG A f&&kv.tG B g
 |_,_=>ah
def kv:(c d:ET)->c.den->d.den->Bool
 | .int k,.int i,(n:Int),(m:Int)=>decide (k=i)&&decide (n=m)
 | .bool,.bool,(a:Bool),(f:Bool)=>a==f
 | .z,.z,(n:Int),(m:Int)=>decide<|n=m
 | .q,.q,(a:Rat),(f:Rat)=>decide (a.num=f.num)&&decide (a.den=f.den)
 | .sl c,.sl d,(xs:V c.den),(l:V d.den)=>kv.tG c d&&Ei (λx g=>kv c d x g) xs l
 | .pr A B,.pr p r,x,g=>kv A p x.1 g.1&&kv B r x.2 g.2
 |_,_,_,_=>ah
def alZ:∀{c a:ET},kv.tG c a=af->c=a:=by
 intro c;induction c with
 |int k=>intro a h;cases a<;>simp[kv.tG]at h;rw[h]
 |bool=>intro a h;cases a<;>simp[kv.tG]at h;rfl
 |z=>intro a h;cases a<;>simp[kv.tG]at h;rfl
 |q=>intro a h;cases a<;>simp[kv.tG]at h;rfl
 |sl c g=>intro a h;cases a<;>simp[kv.tG]at h;rw[g h]
 |pr A B d f=>intro a h;cases a<;>simp[kv.tG]at h;rw[d h.1,f h.2]
def aa9{c:Type}{f:c->c->Bool}(i:∀x d,f x d=af->x=d):∀{xs g:V c},Ei f xs g=af->xs=g
 |[],[],_=>rfl
 |x::xs,d::g,a=>by simp only[Ei,cr]at a;rw[i _ _ a.1,aa9 i a.2]
 |[],_::_,a=>by simp[Ei]at a
 |_::_,[],a=>by simp[Ei]at a
def al0:∀(c:ET)(x a:c.den),kv c c x a=af->x=a:=by
 intro c;induction c with
 |int k=>intro x a h;simp only[kv,cr,decide_eq_true_eq]at h;exact h.2
 |bool=>intro x a h;exact eq_of_beq h
 |z=>intro x a h;exact aK h
 |q=>intro x a h;simp only[kv,cr,decide_eq_true_eq]at h;exact Rat.ext h.1 h.2
 |sl c g=>intro x a h;simp only[kv,cr]at h;exact aa9 g h.2
 |pr A B d f=>intro x a h;simp only[kv,cr]at h;exact Prod.ext (d _ _ h.1)<|f _ _ h.2
def Ej{a:Type}(f:a->V C->Bool)(n:Y):V C->V a->Bool
 |_,[]=>af
 |cs,x::xs=>f x (h n cs)&&Ej f n (az n cs) xs
def al1(a:Y):aw Y->Bool
 |none=>af
 |some c=>eJ a c
def Ih(d:Y->aw aN)(a:ET)(f:a.den->V C->Bool)(c:C)(xs:V a.den):Bool:=
 match c with
 | .S g i=>kv (.sl g) (.sl a) i xs
 | .V (.slice none 0 0)=>xs.isEmpty
 | .L id off len cap=>gR len (Z xs)&&eJ (len*a.n) 140737488355328&&al1 len cap&&(match d id with
  |some (.box _ _ cs)=>Ej f a.n (az off cs) xs
  |some (.fz _ cs)=>Ej f a.n (az off cs) xs
  |_=>ah)
 |_=>ah
def Ii(d:Y->aw aN)(a:Int):V C->Bool
 |[.B f,c]=>(f==b6 a)&&Ih d (.int .u32) (λn g=>match g with|[.I .u32 m]=>decide (m=n)|_=>ah) c (dN a)
 |_=>ah
def uU(d:Y->aw aN):(f:ET)->f.den->V C->Bool
 | .int k,n,a=>(match a with|[.I g m]=>decide (g=k)&&decide (m=n)|_=>ah)
 | .bool,i,a=>(match a with|[.B l]=>l==i|_=>ah)
 | .z,p,a=>Ii d p a
 | .q,r,a=>Ii d r.num (h 2 a)&&Ii d (r.den:Int) (az 2 a)
 | .sl f,xs,a=>(match a with|[c]=>Ih d f (λx a=>uU d f x a) c xs|_=>ah)
 | .pr A B,x,a=>uU d A x.1 (h A.n a)&&uU d B x.2 (az A.n a)
def M9(a:Y->aw aN):C->C->Bool
 | .B f,.B g=>f==g
 | .I k n,.I i l=>decide (k=i)&&decide (n=l)
 |c,.S d xs=>Ih a d (uU a d) c xs
 |_,.any=>af
 |_,_=>ah
def uV(a:Y->aw aN):V C->V C->Bool
 |[],[]=>af
 |c::cs,d::ds=>M9 a c d&&uV a cs ds
 |_,_=>ah
def Ek(a:Y->aw aN):V (Bool×V C)->V (Bool×V C)->Bool
 |[],[]=>af
 | (c,cs)::r,(d,ds)::f=>(c==d)&&uV a cs ds&&Ek a r f
 |_,_=>ah
def Bj(d:Y->aw aN):AV->AV->Bool
 | .c x,.c f=>M9 d x f
 | .a cs,.a ds=>uV d cs ds
 | .t g,.t i=>Ek d g i
 |_,_=>ah
section
variable{F:eP}{g:Gh}{W:World}{lk:Y->aw aN}
structure uW(d:FH)(g:Gh)(W:World)(lk:Y->aw aN):Prop where
 le:cK g.H d
 cy:∀a E c,((∃sz,lk a=ad (.box E sz c))\/lk a=ad (.fz E c))->∃b,∃vs rest:V a4,El.cy (g.γ a)=ad b/\(∀o,d b o=W.cell? ⟨b,o,none⟩)/\W.heap[b]? =ad (.cells (vs++rest).toArray E (0,0))/\bc g c vs
variable{HF:FH}
def aa'{c:Type}{R:c->V a4->Prop}{f:c->V C->Bool}{n:Y}(d:∀x a vs,f x a=af->bc g a vs->R x vs)(l:∀x vs,R x vs->Z vs=n):∀(xs:V c){a:V C}{vs:V a4},Ej f n a xs=af->bc g a vs->∀i(h:i<Z xs),R xs[i] ((az (i*n) vs).take n)
 |[],_,_,_,_,i,h=>by simp at h
 |x::xs,a,vs,hm,k,i,h=>by
  simp only[Ej,cr]at hm;cases i with
  |zero=>simp only[rM,o5,vr];exact d _ _ _ hm.1<|k.take n
  |succ i=>
   have:=aa' d l xs hm.2 (k.drop n) i dH
   rw[qu,(E7:n+i*n=(i+1)*n)]at this
   simpa using this
def SK(A:uW HF g W lk){T}{f:T.den->V C->Bool}(hf:∀x d vs,f x d=af->bc g d vs->cV HF T x vs){c}{xs}{v}(k:Ih lk T f c xs=af)(m:da g c v):kZ (cV HF T) T.n HF xs v:=by
 unfold Ih at k;split at k
 .rename_i B e;have o:B=T:=by simp only[kv,cr]at k;exact alZ k.1
  subst o;have:=al0 (.sl B) e xs k;subst this;exact kZ.mono m A.le<|λx d=>cV.mono A.le B x d
 .have:xs=[]:=List.isEmpty_iff.1 k;subst this;simp only[da]at m;exact⟨none,0,m,a7 _,ay,.inl J⟩
 .rename_i H a q K;simp only[cr]at k;let ⟨⟨⟨L,M⟩,s⟩,l⟩:=k;have L:=kO L;have M:=dc M;subst L;have l:∃E d,((∃sz,lk H=ad (.box E sz d))\/lk H=ad (.fz E d))/\Ej f T.n (az a d) xs=af:=by
   split at l
   .rename_i E sz d p;exact⟨E,d,.inl ⟨sz,p⟩,l⟩
   .rename_i E d p;exact⟨E,d,.inr p,l⟩
   .cases l
  .let ⟨E,d,p,l⟩:=l;let ⟨b,vs,rest,t,w,hh,P⟩:=A.cy H E d p;have r:=aa' (R:=cV HF T) hf (λx vs h=>cV.length T x vs h) xs l<|P.drop a;have Q:∃c,v= .slice (ad ⟨b,a,none⟩) (Z xs) c/\Z xs<=c:=by
    cases K with
    |none=>
     let ⟨y,z,c,u,S,D⟩:=m
     rw[u]at t
     simp only[El.cy,ar]at t
     subst t
     exact⟨c,by rw[y];exact S,D⟩
    |some c=>
     let ⟨z,u,S⟩:=m
     rw[t]at u
     cases u
     exact⟨c,S,dc s⟩
   let ⟨c,Q,hc⟩:=Q;refine⟨ad ⟨b,a,none⟩,c,Q,hc,M,?_⟩;by_cases hx:xs=[]
   .exact .inl hx
   .refine .inr ⟨b,a,J,λi X=>⟨_,cV.length T _ _<|r i X,r i X,λj I=>?_⟩⟩;rw[w];simp only[fp,CI]at I;simp only[qm,sC];rw[(G:a+i*T.n+j=a+(i*T.n+j))];simp only[Ce,hh,tW];rw[Cj G];exact cH G
 .cases k
def SL(p:uW HF g W lk){m}{i}{vs}(a:Ii lk m i=af)(t:bc g i vs):p8 HF m vs:=by
 unfold Ii at a;split at a
 .rename_i b c;simp only[cr]at a;obtain⟨v,r,rfl,d,A,B,rfl,f,n⟩:=t;simp only[bc]at n;simp only[da]at d;subst n d;rw[eq_of_beq a.1];refine⟨A,J,SK (T:= .int .u32) p ?_ a.2 f⟩;intro x i vs k l;split at k
  .obtain⟨u,r,rfl,d,f⟩:=l;simp only[bc]at f;simp only[da]at d;subst f d;rw[aK k];rfl
  .cases k
 .cases a
def al2(m:uW HF g W lk):∀(l:ET)(x:l.den)(d:V C)(vs:V a4),uU lk l x d=af->bc g d vs->cV HF l x vs:=by
 intro l;induction l with
 |int k=>
  intro x d vs a c
  simp only[uU]at a
  split at a
  .obtain⟨u,r,rfl,i,f⟩:=c;simp only[bc]at f;simp only[da]at i;simp only[cr,decide_eq_true_eq]at a;subst f i;rw[a.1,a.2];rfl
  .cases a
 |bool=>
  intro x d vs a c
  simp only[uU]at a
  split at a
  .obtain⟨u,r,rfl,i,f⟩:=c;simp only[bc]at f;simp only[da]at i;subst f i;rw[eq_of_beq a];rfl
  .cases a
 |z=>intro x d vs a c;exact SL m a c
 |q=>
  intro x d vs a c
  simp only[uU,cr]at a
  exact⟨h 2 vs,az 2 vs,(ry 2 vs).symm,SL m a.1<|c.take 2,SL m a.2<|c.drop 2⟩
 |sl l v=>
  intro x d vs a c
  simp only[uU]at a
  split at a
  .obtain⟨u,r,rfl,i,f⟩:=c;simp only[bc]at f;subst f;exact⟨u,J,SK m v a i⟩
  .cases a
 |pr A B p t=>
  intro x d vs a c
  simp only[uU,cr]at a
  exact⟨h A.n vs,az A.n vs,(ry _ vs).symm,p _ _ _ a.1<|c.take _,t _ _ _ a.2<|c.drop _⟩
def SM(i:uW HF g W lk){c d}{v}(a:M9 lk c d=af)(f:da g c v):da ⟨HF,jv⟩ d v:=by
 unfold M9 at a;split at a
 .rw[<-eq_of_beq a];exact f
 .simp only[cr,decide_eq_true_eq]at a;rw[<-a.1,<-a.2];exact f
 .exact SK i (al2 i _) a f
 .trivial
 .cases a
def SN(k:uW HF g W lk):∀{a f:V C}{vs:V a4},uV lk a f=af->bc g a vs->bc ⟨HF,jv⟩ f vs
 |[],[],_,_,i=>i
 |c::a,d::f,_,hm,i=>by simp only[uV,cr]at hm;obtain⟨v,r,rfl,l,m⟩:=i;exact⟨v,r,J,SM k hm.1 l,SN k hm.2 m⟩
 |[],_::_,_,hm,_=>by simp[uV]at hm
 |_::_,[],_,hm,_=>by simp[uV]at hm
def abb(f:uW HF g W lk):∀{i k:V (Bool×V C)}{vs:V a4},Ek lk i k=af->fX g i vs->fX ⟨HF,jv⟩ k vs
 |[],[],_,_,l=>l
 | (n,cs)::i,(t,ds)::k,_,hm,l=>by
  simp only[Ek,cr]at hm;let ⟨⟨m,hc⟩,ht⟩:=hm;have m:=eq_of_beq m;subst m;obtain⟨v,r,rfl,a,p⟩:=l;refine⟨v,r,J,?_,abb f ht p⟩;cases n with
  |true=>let ⟨us,e,a⟩:=a;exact⟨us,e,SN f hc a⟩
  |false=>
   match cs,ds,hc,a with
   |[c],[d],hc,a=>simp only[uV,cr]at hc;exact SM f hc.1 a
   |[c],[],hc,_=>simp[uV]at hc
   |[c],_::_::_,hc,_=>simp[uV]at hc
   |[],_,_,a=>exact a.elim
   |_::_::_,_,_,a=>exact a.elim
 |[],_::_,_,hm,_=>by simp[Ek]at hm
 |_::_,[],_,hm,_=>by simp[Ek]at hm
def abd(c:uW HF g W lk){x d}{v}(a:Bj lk x d=af)(f:bG g x v):bG ⟨HF,jv⟩ d v:=by
 cases x<;>cases d<;>simp only[Bj]at a<;>try cases a
 .exact SM c a f
 .let ⟨vs,e,h⟩:=f;exact⟨vs,e,SN c a h⟩
 .let ⟨vs,e,h⟩:=f;exact⟨vs,e,abb c a h⟩
end
def qZ(a:Y->aw aN):V AV->V AV->Bool
 |[],[]=>af
 |x::xs,c::d=>Bj a x c&&qZ a xs d
 |_,_=>ah
def abe{d:Y->aw aN}{f:FH}{g:Gh}{W:World}(i:uW f g W d):∀{xs a:V AV}{vs:V a4},qZ d xs a=af->ff g xs vs->ff ⟨f,jv⟩ a vs
 |[],[],_,_,c=>c
 |x::xs,m::a,_,hm,c=>by simp only[qZ,cr]at hm;obtain⟨v,r,rfl,k,l⟩:=c;exact⟨v,r,J,abd i hm.1 k,abe i hm.2 l⟩
 |[],_::_,_,hm,_=>by simp[qZ]at hm
 |_::_,[],_,hm,_=>by simp[qZ]at hm
def abf{c:Y->aw aN}:∀{xs a:V AV},qZ c xs a=af->Z a=Z xs
 |[],[],_=>rfl
 |x::xs,d::a,hm=>by simp only[qZ,cr]at hm;simp[abf hm.2]
 |[],_::_,hm=>by simp[qZ]at hm
 |_::_,[],hm=>by simp[qZ]at hm
section
variable{P:bZ}
def al3{g}:∀(vs:V AV)(a:V a4)(i:Y)(all:V a4),Z a=Z vs->(∀d,d<Z a->all[i+d]? =a[d]?)->(∀t v,o t (dv i vs)=ad v->bG g v (all.toArray.getD t undef))->ff g vs a:=by
 intro vs;induction vs with
 |nil=>intro a i all hl _ _;exact fB tX
 |cons x vs A=>
  intro a i all hl c n
  cases a with
  |nil=>simp at hl
  |cons u a=>
   refine⟨u,a,J,?_,A a (i+1) all tX ?_ ?_⟩
   .have B:=n i x (by simp[dv,o]);have p:=c 0 ay;simp only[jd,mn]at p;simpa[p]using B
   .intro d hj;have:=c (d+1) sH;rw[(G:i+1+d=i+(d+1))];simpa using this
   .intro t v r;refine n t v ?_;have k:∀(l:V AV)(f:Y),i<f->∀v,o i (dv f l)=ad v->False:=by
     intro l;induction l with
     |nil=>intro f _ v h;simp[dv,o]at h
     |cons y l m=>
      intro f C v h
      simp only[dv,o]at h
      split at h
      .omega
      .exact m (f+1) G v h
    simp only[dv,o];split
    .rename_i e;subst e;exact(k vs (i+1) G v r).elim
    .exact r
def Em:aN->aN
 | .box a _ cs=> .fz a cs
 |c=>c
def abg a:(Em a).ak=a.ak:=by cases a<;>rfl
open Classical in
def al4{f}{vs L}{r}(cF:al P f L r)(hm:cY L=[]){fm M}(tH:V Y)(hD:∀c,o c M=if c∈tH then(o c fm).map Em else o c fm){lk:Y->aw aN}(wA:∀c d,lk c=ad d->c∈tH/\o c fm=ad d)(abh:qZ lk vs L=af) k:CX P f vs fm k r M k:=by
 refine⟨cF.call,a7 _,?_⟩;intro F g W us hn o8 p;have Hh:ff g vs us:=al3 vs us 0 us o8 (λj hj=>ay) (λt v ht=>p.eC t v<|by simp[St.kn,ht]);have rB:∀c,St.kn ⟨dv 0 vs,fm,0,[]⟩ (.m c)=(o c fm).map .b:=λ_=>rfl
 let B:Y->Prop:=λd=>∃c E sz Q,c∈tH/\o c fm=ad (.box E sz Q)/\cy (g.γ c)=ad d
 let S:FH:=λd q=>if B d then W.cell? ⟨d,q,none⟩else g.H d q
 have hBz:∀d,B d->(∀q,g.H d q=none)/\F.N d:=by rintro d ⟨c,E,sz,Q,_,hl,K⟩;let ⟨b',ws,rest,G,e2,e3,e4,e5,_⟩:=p.c8 c (.box E sz Q) yS;rw[K]at G;cases G;exact⟨e5,e4⟩
 have Z:cK g.H S:=by
  intro d q v hv;by_cases e:B d
  .rw[(hBz d e).1]at hv;cases hv
  .simp only[S,e,bN];exact hv
 have ok:uW S g W lk:=by
  refine⟨Z,λc E Q hl=>?_⟩;rcases hl with⟨sz,hl⟩|hl
  .let ⟨l,hl⟩:=wA c _ hl;let ⟨d,ws,rest,G,e2,e3,e4,e5,_⟩:=p.c8 c (.box E sz Q) yS;have hB:B d:=⟨c,E,sz,Q,l,hl,G⟩;exact⟨d,ws,rest,G,λq=>by simp only[S,hB,b9],e2,e3⟩
  .let ⟨l,hl⟩:=wA c _ hl;let ⟨d,ws,rest,G,e2,e3,e4,e5⟩:=p.c8 c (.fz E Q) yS;have I:¬B d:=by rintro⟨w,E',sz,cs',abj,C,O⟩;have:=p.inj c w (.fz E Q) (.box E' sz cs') d yS (by rw[rB,C];rfl) G O;subst this;rw[hl]at C;cases C
   exact⟨d,ws,rest,G,λq=>by simp only[S,I,bN,e5];simp[Ce,e2],e2,e3⟩
 have R:=abe ok abh Hh;have vM:Sub S W:=by
  intro d q v hv;by_cases e:B d
  .simp only[S,e,b9]at hv;exact hv
  .simp only[S,e,bN]at hv;exact p.sub d q v hv
 have hlen:=abf abh;have h2:bw F (·<k) (St.kn ⟨dv 0 L,M,0,[]⟩) ⟨S,g.γ⟩ W (m9 us):=by
  have hM:∀c d,St.kn ⟨dv 0 L,M,0,[]⟩ (.m c)=ad (.b d)->∃i,o c fm=ad i/\((c∉tH/\d=i)\/(c∈tH/\d=Em i)):=by
   intro c d K;have e:St.kn ⟨dv 0 L,M,0,[]⟩ (.m c)=(o c M).map .b:=rfl;rw[e,hD]at K;split at K
   .rename_i hd;cases hl:o c fm with
    |none=>rw[hl]at K;cases K
    |some i=>rw[hl]at K;cases K;exact⟨i,J,.inr ⟨hd,J⟩⟩
   .rename_i mi;simp only[cL]at K;let ⟨x,z,he⟩:=K;cases he;exact⟨_,z,.inl ⟨mi,J⟩⟩
  have X:∀c d,St.kn ⟨dv 0 L,M,0,[]⟩ (.m c)=ad (.b d)->∃i,o c fm=ad i/\d.ak=i.ak:=by
   intro c d K;let ⟨i,hl,cF⟩:=hM c d K;refine⟨i,hl,?_⟩;rcases cF with⟨_,rfl⟩|⟨_,rfl⟩
   .rfl
   .exact abg i
  refine⟨p.size,p.defers,?_,?_,?_,?_,?_,vM,p.below,p.le.trans Z,?_,p.gW⟩
  .intro t v ht;simp only[St.kn,cL]at ht;let ⟨x,z,he⟩:=ht;cases he;let ⟨_,u,hu,hr,X⟩:=nL L us 0 R t v z;have BQ:us[t]? =ad u:=xM;simp only[m9,nI,tW,BQ,qe];refine hr.iC ?_ (cK.refl _) g.γ;refine Pk.2<|λc l=>?_;have:=X c l;rw[hm]at this;cases this
  .intro c d K;let ⟨i,hl,al6⟩:=hM c d K;have U:St.kn ⟨dv 0 vs,fm,0,[]⟩ (.m c)=ad (.b i):=yS;have FX:=p.c8 c i U;have A:(∀E sz Q,i= .box E sz Q->c∉tH)->ik F.N ⟨S,g.γ⟩ W c i:=by
    intro rL;refine FX.v5 (known:=(·<k)) ⟨Z,λ_ _=>rfl⟩ (p.dO c _ U) (λj hj=>p.ak _ _ U j hj)<|λkk kM=>⟨J,λq=>?_⟩;have I:¬B kk:=by rintro⟨w,E,sz,Q,abj,C,O⟩;have:=p.inj c w i (.box E sz Q) kk U (by rw[rB,C];rfl) kM O;subst this;rw[hl]at C;cases C;exact rL E sz Q J abj
    simp only[S,I,bN]
   rcases al6 with⟨mi,rfl⟩|⟨hd,rfl⟩
   .exact A<|λ_ _ _ _=>mi
   .cases i with
    |box E sz Q=>
     let ⟨d,ws,rest,G,e2,e3,e4,e5,_⟩:=FX
     have hB:B d:=⟨c,E,sz,Q,hd,hl,G⟩
     exact⟨d,ws,rest,G,e2,bc.mono (known:=(·<k)) (g:=g) (g':=⟨S,g.γ⟩) ⟨Z,λ_ _=>rfl⟩ (λj hj=>p.ak _ _ U j hj) e3,e4,λq=>by simp only[S,hB,b9];simp[Ce,e2]⟩
    |vec E T xs=>exact A<|λ_ _ _ e=>uX
    |jG f a d=>exact A<|λ_ _ _ e=>uX
    |fz E Q=>exact A<|λ_ _ _ e=>uX
    |mp ka va xs=>exact A<|λ_ _ _ e=>uX
    |it m n seen=>exact A<|λ_ _ _ e=>uX
  .intro c w d b' kk K O h1 h2;let ⟨i,hl,_⟩:=hM c d K;let ⟨b1,C,_⟩:=hM w b' O;exact p.inj c w i b1 kk yS (by rw[rB,C];rfl) h1 h2
  .intro key x z c l;cases key with
   |m j=>
    cases x with
    |b b'=>
     let ⟨i,hl,oh⟩:=X j b' z
     have l:c∈b'.ak:=l
     rw[oh]at l
     exact p.ak (.m j) (.b i) yS c l
    |v v'=>simp only[St.kn,cL]at z;let ⟨_,_,he⟩:=z;cases he
   |s t=>
    simp only[St.kn,cL]at z
    let ⟨y,hy,he⟩:=z
    subst he
    let ⟨_,_,_,_,h6⟩:=nL L us 0 R t y hy
    have:=h6 c l
    rw[hm]at this
    cases this
  .intro c x z;cases x with
   |b b'=>let ⟨i,hl,_⟩:=X c b' z;exact p.dO c (.b i) yS
   |v v'=>simp only[St.kn,cL]at z;let ⟨_,_,he⟩:=z;cases he
  .intro d q K rL;have I:¬B d:=by
    intro e;rcases(hBz d e).2 with h1|h1
    .omega
    .exact rL h1
   simp only[S,I,bN];exact p.fresh d q K rL
 exact(ahB cF hm M k).spec F ⟨S,g.γ⟩ W us (by rw[hlen];exact hn) (by rw[hlen];exact o8) h2
end
inductive Rc where
 |no
 |de (t:Tr) (ms:Ms) (k:Y) (a:V Y)
 |fS (c:Y) (t:Tr) (ms:Ms) (k:Y) (a:V Y)
 |ret (t:Tr) (ms:Ms) (k:Y) (a:V Y)
def et(n:Y):Y:=if n<=16 then 2 else if n<=64 then 3 else if n<=256 then 4 else if n<=1024 then 5 else 6
noncomputable def mM(dep:Y)(vs:V AV):Y->Tr->Tr:=ku (motive:=λ_=>Y->Tr->Tr) (λ_ t=>t)
 (λv _ a i t=>a (i+1)<|jn (cP dep i) v t) vs
noncomputable def Ij(d:TT)(dep n:Y)(t:Tr)(f:Ms):ResultVar->aw AV
 | .tmp a=>(match dk a n with
  |true=>iY (cP dep a) t
  |false=>none)
 | .cell a ty=>(match dk a n with
  |true=>(match iY (cP dep a) t with
   |some (.c<|.P id off)=>(match bu id f,oY d ty with
    |some (.box _ _ cs),ad (sz,g)=>mY cs off sz g
    |_,_=>none)
   |_=>none)
  |false=>none)
noncomputable def M'(a:TT)(dep n:Y)(t:Tr)(c:Ms):V ResultVar->aw (V<|Bool×V C)
 |[]=>ad []
 |x::xs=>(match Ij a dep n t c x with
  |some v=>(match qv v,M' a dep n t c xs with
   |some d,ad r=>ad<|d::r
   |_,_=>none)
  |none=>none)
noncomputable def En(a:TT)(dep n:Y)(t:Tr)(c:Ms):V ResultVar->aw AV
 |[x]=>Ij a dep n t c x
 |xs=>(match M' a dep n t c xs with
  |some d=>ad<|.t d
  |none=>none)
noncomputable def xb:Y->Mem->V Y->Mem->Mem
 |0,_,_,acc=>acc
 |_+1,_,[],acc=>acc
 |f+1,own,id::todo,acc=>match lZ id acc with
  |some _=>xb f own todo acc
  |none=>(match lZ id own with
   |some a=>xb f own (a.ak++todo)<|(id,a)::acc
   |none=>xb f own todo acc)
noncomputable def Bk(k:Y)(a:Ms):V Y->Bool
 |[]=>af
 |id::r=>(match eJ k id with
  |true=>Bk k a r
  |false=>(match bu id a with
   |some _=>Bk k a r
   |none=>ah))
noncomputable def Na(k:Y)(a:Ms):Mem->Bool
 |[]=>af
 | (id,c)::r=>(match eJ k id with
  |true=>(match Bk k a c.ak with
   |true=>Na k a r
   |false=>ah)
  |false=>ah)
noncomputable def Eo(k:Y)(c a:Ms):V Y->Bool
 |[]=>af
 |id::r=>(match bu id a with
  |some d=>(match Bk k c d.ak with
   |true=>Eo k c a r
   |false=>ah)
  |none=>Eo k c a r)
noncomputable def SO(k:Y)(l:Mem):Bool:=ku (motive:=λ_=>Bool) af (λh _ a=>yO (motive:=λ_=>Bool) ah a<|eJ k h.1) l
def yT(a:Mem):Ms->Ms
 |m::r=>(a++m)::r
 |[]=>[a]
noncomputable def Ik(a:Ms):V Y->V Y
 |[]=>[]
 |id::r=>(match bu id a with
  |some c=>c.ak++Ik a r
  |none=>Ik a r)
noncomputable def leave(i:TT)(f:Func)(dep:Y)(c:Ms)(k:Y)(t:Tr)(a:Ms)(l:Y)(d:V Y):Cr:=match En i dep f.ntmps t a f.results.toList with
 |some r=>(match a with
  |own::rest=>(match xb 1000 own (r.ak++Ik rest d) []with
   |g=>(match Bk k c r.ak&&Na k c g&&Eo k c rest d&&SO k own with
    |true=> .ok r (yT g rest) l d
    |false=> .no))
  |[]=> .no)
 |none=> .no
noncomputable def Il(a:Ms):Y->V Y->V Y->V Y
 |0,_,acc=>acc
 |_+1,[],acc=>acc
 |f+1,id::todo,acc=>match acc.any (gR id)with
  |true=>Il a f todo acc
  |false=>(match bu id a with
   |some c=>Il a f (c.ak++todo)<|id::acc
   |none=>Il a f todo acc)
noncomputable def lkS(c:V Y)(d:Ms)(a:Y):aw aN:=match c.any (gR a)with
 |true=>bu a d
 |false=>none
noncomputable def uY:V Y->Ms->Ms
 |[],ms=>ms
 |id::r,ms=>(match bu id ms with
  |some (.box a _ cs)=>uY r<|pT id (.fz a cs) ms
  |_=>uY r ms)
abbrev xc:=Y->Y->Y->Code->Tr->Ms->Y->V Y->Rc
noncomputable def sd(P:bZ)(m:TT)(i:jB->V AV->Ms->aw (V AV×AV))(body:xc):l6:=λf vs a k=>
 match i f vs a with
 |some (g,r)=>(match Il a 200 (cY vs) []with
  |D=>(match qZ (lkS D a) vs g&&(cY g).isEmpty&&Eo k a (uY D a) D with
   |true=> .ok r (uY D a) k D
   |false=> .no))
 |none=>(match P.funcs[f]? with
  |some fn=>(match fn.body with
   |some c=>(match fn.name != "runtime.NumGoroutine" &&eJ (Z vs) fn.ntmps&&eJ fn.ntmps 4096 with
    |true=>(match body (et fn.ntmps) fn.ntmps k c (mM (et fn.ntmps) vs 0 .e) ([]::a) k []with
     | .de t d l wl=>leave m fn (et fn.ntmps) a k t d l wl
     | .ret t d l wl=>leave m fn (et fn.ntmps) a k t d l wl
     |_=> .no)
    |false=> .no)
   |none=> .no)
  |none=> .no)
noncomputable def al7(d:xc)(dep n f:Y)(x g:Code)(t:Tr)(i:Ms)(k:Y)(l:V Y):Rc:=match d dep n f x t i k l with
 | .de t1 a m c=>d dep n f g t1 a m c
 |r=>r
noncomputable def al8(a:xc)(dep n d:Y)(c:dQ)(x i:Code)(t:Tr)(f:Ms)(k:Y)(g:V Y):Rc:=match hZ dep n c with
 |some p=>(match jA t p with
  |some (.c<|.B b)=>(match b with
   |true=>a dep n d x t f k g
   |false=>a dep n d i t f k g)
  |_=> .no)
 |none=> .no
noncomputable def al9(g:xc)(dep n i:Y)(l:Y)(x:Code)(t:Tr)(m:Ms)(k:Y)(p:V Y):Rc:=match g dep n i x t m k p with
 | .fS a t1 c f d=>(match gR a l with
  |true=> .de t1 c f d
  |false=> .fS a t1 c f d)
 |r=>r
noncomputable def al'(d:xc)(dep n f:Y)(x:Code)(t:Tr)(g:Ms)(k:Y)(i:V Y):Rc:=match d dep n f x t g k i with
 | .de t1 a l c=>d dep n f (.loop x) t1 a l c
 |r=>r
def rT:Rs->Rc
 | .ok t1 a d c _=> .de t1 a d c
 | .no=> .no
def rD(ps:V (Y×Y)):Rd->Rc
 | .ok t1 a d c fs=>(match Ee fs.reverse ps with
  |true=> .de t1 a d c
  |false=> .no)
 | .no=> .no
noncomputable def ama(a:l6)(f:TT)(dep n g:Y)(d:V bh)(c:Bool)(t:Tr)(i:Ms)(k:Y)(l:V Y):Rc:=match M8 dep n d c with
 |some (gs,none)=>rT<|uS a f n g gs t i k l
 |some (gs,ad ps)=>rD ps<|w8 a f n g gs t i k l []
 |none=> .no
noncomputable def amb(P:bZ)(i:TT)(f:jB->V AV->Ms->aw (V AV×AV))(a:xc)(dep n d:Y):Code->Tr->Ms->Y->V Y->Rc
 | .skip=> .de
 | .exit id=> .fS id
 | .ret=> .ret
 | .seq x g=>al7 a dep n d x g
 | .cond c x g=>al8 a dep n d c x g
 | .block id x=>al9 a dep n d id x
 | .loop x=>al' a dep n d x
 | .region _ ops draw=>ama (sd P i f a) i dep n d ops.toList draw
 |_=>λ_ _ _ _=> .no
noncomputable def ia(P:bZ)(d:TT)(c:jB->V AV->Ms->aw (V AV×AV))(a:Y):xc:=M3 (motive:=λ_=>xc)
 (λ_ _ _ _ _ _ _ _=> .no) (λ_ f=>amb P d c f) a
def q5:Ft->Y->Prop
 | .n,_=>False
 | .m rd _,id=>id∈rd
 | .c k _ _,id=>id<k
def mN:Ft->Y->Prop
 | .n,_=>False
 | .m _ wr,id=>id∈wr
 | .c k a wl,id=>(id∈wl/\id<k)\/(k<=id/\id<a)
def yU(c d:Ks)(f:Ft):Prop:=(∀a∈c.1,match a with| .s t=>Key.s t∈d.1| .m id=>q5 f id)/\∀a∈c.2,match a with| .s t=>Key.s t∈d.2| .m id=>mN f id
def eN(c:Ms)(k:Y):Prop:=∀a b,bu a c=ad b->a<k/\∀j∈b.ak,j<k
def dz(dep n:Y)(t:Tr)(k:Y):Prop:=∀j v,j<n->iY (cP dep j) t=ad v->∀a∈v.ak,a<k
def lz(c a:Ms):Prop:=∀i j b,1<=i->bu j (az i a)=ad b->∃d,bu j (az i c)=ad d
def lz.refl ms:lz ms ms:=λ_ _ b _ h=>⟨b,h⟩
def lz.trans{a d c}(k:lz a d)(g:lz d c):lz a c:=λi j x f l=>by let ⟨y,m⟩:=g i j x f l;exact k i j y f m
def SP id c a:lz a (pT id c a):=by
 intro i j x _ hx;have d:∀(a:Ms)(i:Y)(x:aN),bu j (az i<|pT id c a)=ad x->∃y,bu j (az i a)=ad y:=by
  intro a;induction a with
  |nil=>intro i x hx;exact⟨x,hx⟩
  |cons m r f=>
   intro i x hx
   have g:pT id c (m::r)=match lZ id m with|some _=>H7 id c m::r|none=>m::pT id c r:=rfl
   cases i with
   |zero=>
    simp only[o5]at hx⊢
    rw[Ea]at hx
    split at hx
    .rename_i y k;split at hx
     .rename_i e;subst e;exact⟨y,k⟩
     .exact⟨x,hx⟩
    .exact⟨x,hx⟩
   |succ i=>
    rw[g]at hx
    split at hx
    .exact⟨x,CZ⟩
    .exact f i x CZ
 exact d a i x hx
def amc id a:lz a (tE id a):=by
 intro i j x _ c;have d:∀(a:Ms)(i:Y),az i (tE id a)=tE id (az i a):=by
  intro a;induction a with
  |nil=>intro i;simp[tE]
  |cons m r f=>intro i;cases i with
   |zero=>rfl
   |succ i=>simpa[tE]using f i
 rw[d,Bd]at c;split at c
 .cases c
 .exact⟨x,c⟩
def amd k c ms:lz ms (yQ k c ms):=by
 intro i j x f a;obtain⟨i,rfl⟩:∃d,i=d+1:=⟨i-1,G⟩;cases ms with
 |nil=>exact⟨x,by simpa[yQ]using a⟩
 |cons m r=>exact⟨x,by simpa[yQ]using a⟩
structure uZ(P:bZ)(g:l6):Prop where
 ok:∀{f vs ms k r c d wl},g f vs ms k= .ok r c d wl->eN ms k->(∀a∈cY vs,a<k)->
  CX P f vs ms.flatten k r c.flatten d/\(∀a∈r.ak,k<=a\/∃b,bu a ms=ad b)/\(∀a b,bu a c=ad b->bu a ms=ad b\/∀i∈b.ak,k<=i\/∃b,bu i ms=ad b)/\
   (∀a,a<k->a∉wl->bu a c=bu a ms)/\(∀a b,bu a c=ad b->k<=a\/∃l,bu a ms=ad l)/\eN c d/\(∀a∈r.ak,a<d)/\lz ms c
section
variable{P:bZ}{tt:TT}{dep n:Y}{t:Tr}{ms:Ms}{k:Y}
def eN.le{a}(c:eN ms k)(d:k<=a):eN ms a:=λf b g=>⟨iz (c f b g).1 d,λj i=>iz ((c f b g).2 j i) d⟩
def dz.le{c}(d:dz dep n t k)(f:k<=c):dz dep n t c:=λj v g i l a=>iz (d j v g i l a) f
def dz.set(c:dz dep n t k)(m:n<=4^dep){d}(p:d<n){v}(f:∀g∈v.ak,g<k):dz dep n (jn (cP dep d) v t) k:=by
 intro j u i a;by_cases e:d=j
 .subst e;rw[H6]at a;cases a;exact f
 .rw[D3 _ _ _ _ D6 (λl=>e<|Bc dep G G l)]at a;exact c j u i a
def dz.del(c:dz dep n t k)(i:n<=4^dep){d}(l:d<n):dz dep n (D2 (cP dep d) t) k:=by
 intro j u f a;by_cases e:d=j
 .subst e;rw[Sw]at a;cases a
 .rw[Sx _ _ _ D6 (λg=>e<|Bc dep G G g)]at a;exact c j u f a
def yV{a c}(d:dk a c=af):a<c:=by simpa[rP]using d
def kz{m:Mem}{x}{p:Pd}(a:hZ dep n x=ad p){v}(c:jA t p=ad v):(bl dep n t m).ev x=ad v:=by
 cases x with
 |tmp j=>
  simp only[hZ]at a
  split at a
  .rename_i d;cases a;simp only[St.ev,bl,sb,aq<|yV d];exact c
  .cases a
 |const u=>simp only[hZ,ar]at a;subst a;exact c
 |func f=>simp only[hZ,ar]at a;subst a;exact c
 |global g=>simp[hZ]at a
def Nb{m:Mem}:∀{xs:V dQ}{ps:V Pd},w7 dep n xs=ad ps->∀{vs:V AV},w6 t ps=ad vs->jw (bl dep n t m) xs=ad vs
 |[],ps,a,vs,he=>by simp only[w7,ar]at a;subst a;exact he
 |x::xs,ps,a,vs,he=>by
  simp only[w7]at a;split at a
  .rename_i p d f g;cases a;have i:w6 t (p::d)=match jA t p with
    |some v=>(match w6 t d with|some vs=>ad (v::vs)|none=>none)
    |none=>none:=rfl
   rw[i]at he;split at he
   .rename_i v l;split at he
    .rename_i r c;cases he;simp only[jw,kz f l,Nb g c]
    .cases he
   .cases he
  .cases a
def ame{m:Mem}(r:dz dep n t k){x}{p:Pd}(a:hZ dep n x=ad p){v}(i:jA t p=ad v):∀l∈v.ak,l<k:=by
 cases x with
 |tmp j=>
  simp only[hZ]at a
  split at a
  .rename_i A;cases a;exact r j v (yV A) i
  .cases a
 |const u=>
  simp only[hZ,ar]at a;subst a
  have:B0 u=v:=by simpa[jA]using i
  subst this
  intro l d
  cases u<;>simp[B0,AV.ak,C.ak]at d
 |func f=>
  simp only[hZ,ar]at a;subst a
  have:AV.c (.V<|.func (.func f) #[] #[])=v:=by simpa[jA]using i
  subst this
  intro l d
  simp[AV.ak,C.ak]at d
 |global g=>simp[hZ]at a
def Nc(g:dz dep n t k):∀{xs:V dQ}{ps:V Pd},w7 dep n xs=ad ps->∀{vs:V AV},w6 t ps=ad vs->∀d∈cY vs,d<k
 |[],ps,c,vs,he=>by
  simp only[w7,ar]at c;subst c;have:vs=[]:=by simpa[w6]using he.symm
  subst this;simp[cY]
 |x::xs,ps,c,vs,he=>by
  simp only[w7]at c;split at c
  .rename_i p i l r;cases c;have e:w6 t (p::i)=match jA t p with
    |some v=>(match w6 t i with|some vs=>ad (v::vs)|none=>none)
    |none=>none:=rfl
   rw[e]at he;split at he
   .rename_i v u;split at he
    .rename_i A f;cases he;intro d a;simp only[cY,bg]at a;rcases a with a|a
     .exact ame (m:=[]) g l u d a
     .exact Nc g r f d a
    .cases he
   .cases he
  .cases c
def Bl(f:cd P tt=af){a:bh}(g:a.guard=none){d:Y}(l:a.dst=ad d)(c:d<n)(r:n<=4^dep){m:Mem}{v}{p}(u:sA tt (bl dep n t m) a.op=ad (v,p))(x:p.h):
  fL P n #[a] 0 (bl dep n t m) (bl dep n (jn (cP dep d) v t) m) k (k+1) (bF a.op.operands.toList,[.s d]):=
 fL.lK (Jt f (ops:= #[a]) (i:=0) J g l c u x k) (qq _ _) (D7 dep n t m d v r c) Ah lL
def abl(f:cd P tt=af){a:bh}(g:a.guard=none){d:Y}(l:a.dst=ad d)(c:d<n)(r:n<=4^dep){m:Mem}{v}{p}(u:CS tt (bl dep n t m) a.op=ad (v,p))(x:p.h):
  fL P n #[a] 0 (bl dep n t m) (bl dep n (jn (cP dep d) v t) m) k (k+1) (bF a.op.operands.toList,[.s d]):=
 fL.lK (V7 f (ops:= #[a]) (i:=0) J g l c u x k) (qq _ _) (D7 dep n t m d v r c) Ah lL
def amf(f:cd P tt=af){a:bh}(g:a.guard=none){d:Y}(l:a.dst=ad d)(c:d<n)(r:n<=4^dep){m:Mem}{v}{p}(u:uj tt (bl dep n t m) a.op=ad (v,p))(x:p.h):
  fL P n #[a] 0 (bl dep n t m) (bl dep n (jn (cP dep d) v t) m) k (k+1) (bF a.op.operands.toList,[.s d]):=
 fL.lK (P1 f (ops:= #[a]) (i:=0) J g l c u x k) (qq _ _) (D7 dep n t m d v r c) Ah lL
def amg(A:cd P tt=af){l:bh}(hg:l.guard=none){d:Y}(hd:l.dst=ad d)(m:d<n)(hn:n<=4^dep){B}{x}(F:l.op= .load B x){v u}{g}(hx:(bl dep n t ms.flatten).ev x=ad v)(a:SF tt ms B v=ad (u,g)):
  fL P n #[l] 0 (bl dep n t ms.flatten) (bl dep n (jn (cP dep d) u t) ms.flatten) k (k+1) (bF [x]++cX g,[.s d]):=by
 have X:Ff tt (bl dep n t ms.flatten) B v=ad (u,.t,g):=by
  unfold SF at a;unfold Ff;split at a
  .cases a
  .rename_i sz j C H;have c:sz≠0:=C;simp only[H];split at a
   .rename_i K L;have f:o K (bl dep n t ms.flatten).mem=bu K ms:=iZ K ms;simp only[f];split at a
    .rename_i E q b M;simp only[M];split at a
     .rename_i y p;cases a;simp only[SE p (λf=>absurd f c)]
     .cases a
    .rename_i E b M;simp only[M];split at a
     .rename_i y p;cases a;simp only[SE p (λf=>absurd f c)]
     .cases a
    .cases a
   .rename_i T f L;split at a
    .rename_i y p;cases a;simp only[SE p (λf=>absurd f c)]
    .cases a
   .cases a
  .cases a
 refine fL.lK (Vr A (ops:= #[l]) (i:=0) J hg hd m F hx X e k) ?_ (D7 dep n t ms.flatten d u hn m) ?_ lL
 .intro S Q;rcases bg.1 Q with h|h
  .exact eG _ _ S h
  .exact k9 _ _ S h
 .intro r W;simp only[dx,fe,bg]at W⊢;rcases W with h|h
  .exact .inl<|eo (bl dep n t ms.flatten) [x] r JG
  .exact .inr<|jY _ _ r h
def amh(F:cd P tt=af){r}(hg:r.guard=none)(hd:r.dst=none){H:TypeId}{x L}(M:r.op= .store H x L){v Q}{d}{u}{l}(S:(bl dep n t ms.flatten).ev x=ad v)(hy:(bl dep n t ms.flatten).ev L=ad Q)(a:SG tt ms H v Q=ad (d,u,l)):
  fL P n #[r] 0 (bl dep n t ms.flatten) (bl dep n t (pT d u ms).flatten) k (k+1) (bF [x,L]++cX [d],[.m d])/\(∃p,bu d ms=ad p/\∀c∈u.ak,c∈p.ak\/c∈b7 l):=by
 have C:Fi tt (bl dep n t ms.flatten) H v Q=ad (d,u)/\∃p,bu d ms=ad p/\∀c∈u.ak,c∈p.ak\/c∈b7 l:=by
  unfold SG at a;unfold Fi;split at a
  .rename_i sz O f A z K D;simp only[K,D];have e:o f (bl dep n t ms.flatten).mem=bu f ms:=iZ f ms;simp only[e];unfold aaS at a;split at a
   .rename_i E R s I;split at a
    .rename_i g;simp only[cr]at g;split at a
     .rename_i x S;cases a;obtain⟨T,rfl⟩:=aaQ l A s x S;have B:Z l=sz:=kO g.1;simp only[I];rw[aq ⟨B,G,aaR g.2⟩];exact⟨J,_,J,λc N=>Fj s l A c N⟩
     .cases a
    .cases a
   .cases a
  .cases a
 refine⟨?_,C.2⟩
 let ⟨C,p,W,_⟩:=C
 refine fL.lK (Vu F (ops:= #[r]) (i:=0) J hg hd M S hy C k) ?_ ?_ ?_ lL
 .intro X q;rcases bg.1 q with h|h
  .rcases bg.1 h with h|h
   .exact eG _ _ X h
   .exact eG _ _ X h
  .exact k9 _ _ X h
 .refine aaD dep n t ms.flatten _ _ (λc=>?_)<|λc=>xH;rw[iZ,Ea,W];simp only[bH,aE,Key.m.injEq];by_cases e:d=c
  .simp[e]
  .simp[e,bl,St.kn,iZ]
 .exact Ae
end
def yW:∀{l:V dQ}{a:Key},a∈bF l->∃d,a= .s d
 |[],a,c=>by simp[bF]at c
 | .tmp d::r,a,c=>by simp only[bF,bY]at c;exact c.elim (λf=>⟨d,f⟩) yW
 | .const _::r,a,c=>yW (l:=r) (by simpa[bF]using c)
 | .func _::r,a,c=>yW (l:=r) (by simpa[bF]using c)
 | .global _::r,a,c=>yW (l:=r) (by simpa[bF]using c)
def Ep{a:Y}:∀{l:V dQ},a∈slotsOf l↔Key.s a∈bF l
 |[]=>by simp[slotsOf,bF]
 | .tmp i::r=>by simp[slotsOf,bF,Ep (l:=r)]
 | .const _::r=>by simp[slotsOf,bF,Ep (l:=r)]
 | .func _::r=>by simp[slotsOf,bF,Ep (l:=r)]
 | .global _::r=>by simp[slotsOf,bF,Ep (l:=r)]
section
variable{P:bZ}{tt:TT}{dep n:Y}{t:Tr}{ms:Ms}{k:Y}
def abm:∀{l:V Y}{c:V (Y×V D4)},Ef dep n l=ad c->∀x∈c,x.2=cP dep x.1/\x.1<n/\x.1∈l
 |[],c,a,x,hx=>by simp only[Ef,ar]at a;subst a;cases hx
 |m::r,c,a,x,hx=>by
  simp only[Ef]at a;split at a
  .rename_i l d f;cases a;rcases bY.1 hx with rfl|hx
   .exact⟨J,yV d,ay⟩
   .let ⟨g,h2,i⟩:=abm f x hx;exact⟨g,h2,by simp[i]⟩
  .cases a
def abn:∀{sl:V (Y×V D4)},(∀x∈sl,x.2=cP dep x.1/\x.1<n)->∀{j:Y}{v:AV},o j (nt sl t)=ad v->j<n/\iY (cP dep j) t=ad v
 |[],_,j,v,a=>by simp[nt,o]at a
 |x::r,c,j,v,a=>by
  have f:nt (x::r) t=match iY x.2 t with|some v=>(x.1,v)::nt r t|none=>nt r t:=rfl
  rw[f]at a;let ⟨g,h2⟩:=c x ay;have d:=abn (sl:=r) (λy hy=>c y nV) (j:=j) (v:=v);split at a
  .rename_i u i;simp only[o]at a;split at a
   .rename_i l;cases a;subst l;exact⟨h2,by rw[<-g];exact i⟩
   .exact d a
  .exact d a
def SQ:∀{f:V Y}{d:Y}{c:aN},o d (sc f ms)=ad c->bu d ms=ad c
 |[],d,c,a=>by simp[sc,o]at a
 |i::r,d,c,a=>by
  have g:sc (i::r) ms=match bu i ms with|some c=>(i,c)::sc r ms|none=>sc r ms:=rfl
  rw[g]at a;split at a
  .rename_i u l;simp only[o]at a;split at a
   .rename_i m;cases a;subst m;exact l
   .exact SQ a
  .exact SQ a
def Bm{a:Y}:∀{l:V Key},a∈mK l↔Key.m a∈l
 |[]=>by simp[mK]
 | .m c::r=>by simp[mK,Bm (l:=r)]
 | .s c::r=>by simp[mK,Bm (l:=r)]
def SS:∀{l:V Key},wS none l=af->∀a,Key.s a∉l
 |[],_,a=>by simp
 | .m i::r,c,a=>by simp only[wS]at c;simpa using SS c a
 | .s i::r,c,a=>by simp[wS]at c
def Nd{d:Y}:∀{l:V Key},wS (ad d) l=af->∀a,Key.s a∈l->a=d
 |[],_,a,hj=>by simp at hj
 | .m i::r,c,a,hj=>by simp only[wS]at c;exact Nd c a sH
 | .s i::r,c,a,hj=>by
  simp only[wS]at c;split at c
  .rename_i f;rcases bY.1 hj with g|hj
   .cases g;exact(kO f).symm
   .exact Nd c a hj
  .cases c
def Nf{a:Y}:∀{l:V Y},Bg a l=af↔a∈l
 |[]=>by simp[Bg]
 |x::r=>by
  simp only[Bg];cases d:gR x a with
  |true=>simp[(kO d).symm]
  |false=>
   have c:a≠x:=by intro e;subst e;simp[H8]at d
   simp[Nf (l:=r),c]
def Ng{d:V Y}:∀{l:V Key},rS d l=af->∀a,Key.s a∈l->a∈d
 |[],_,a,hj=>by simp at hj
 | .m i::r,c,a,hj=>by simp only[rS]at c;exact Ng c a sH
 | .s i::r,c,a,hj=>by
  simp only[rS]at c;split at c
  .rename_i f;rcases bY.1 hj with g|hj
   .cases g;exact Nf.1 f
   .exact Ng c a hj
  .cases c
def SU{d f}{g}{c}(l:c<d)(a:c∉Bf d f g):c∉g/\c≠f:=by
 unfold Bf at a;split at a
 .simp only[bY,not_or]at a;exact⟨a.2,a.1⟩
 .rename_i i;refine⟨a,?_⟩;intro e;subst e;have:dk c d=af:=by simpa[rP]using l
  rw[this]at i;cases i
structure ami(k i:Y)(l d:Mem)(f:V Y)(ms:Ms)(m:V Y)(c:Ms)(g:V Y):Prop where
 out:∀a,a∉f->bu a c=bu a ms
 Nh:∀a,a∈f->bu a c=o a d
 gone:∀a,a∈f->o a d=none->∃b,o a l=ad b
 log:∀a,a<i->a∉g->a∉m/\bu a c=bu a ms
 Bn:∀a b,a<i->bu a c=ad b->∃p,bu a ms=ad p
 wf:eN ms (k+1)->eN c (k+1)
 tl:lz ms c
def Ni{F:Y}(M:F<=k){Q f:Mem}:∀{W:V Y}{ms:Ms}{H:V Y}{p:Ms}{u:V Y},Bh k F Q f W ms H=ad (p,u)->ami k F Q f W ms H p u
 |[],ms,H,p,u,h=>by
  have:ms=p/\H=u:=by simpa[Bh]using h
  obtain⟨rfl,rfl⟩:=this;exact⟨λ_ _=>rfl,λ_ h=>er,λ_ h=>er,λ_ _ h=>⟨h,J⟩,λ_ B _ h=>⟨B,h⟩,λh=>h,lz.refl _⟩
 |i::r,ms,H,p,u,h=>by
  have e:Bh k F Q f (i::r) ms H=match lZ i f with
   |some B=>(match Ic (k+1) B with
    |true=>(match gR i k with
     |true=>Bh k F Q f r (yQ k B ms) H
     |false=>(match bu i ms with
      |some _=>Bh k F Q f r (pT i B ms)<|Bf F i H
      |none=>none))
    |false=>none)
   |none=>(match lZ i Q with
    |some _=>Bh k F Q f r (tE i ms)<|Bf F i H
    |none=>none):=rfl
  rw[e]at h;simp only[w5]at h;split at h
  .rename_i B S;split at h
   .rename_i L;split at h
    .rename_i C;have C:i=k:=kO C;have d:=Ni M h;refine⟨?_,?_,?_,?_,?_,?_,(amd k B ms).trans d.tl⟩
     .intro j a;simp only[bY,not_or]at a;rw[d.out j a.2,Ia,b<|by rw[<-C];exact λe=>a.1 e.symm]
     .intro j a;by_cases v:j∈r
      .exact d.Nh j v
      .have:j=i:=by simpa[v]using a
       subst this;rw[d.out j v,Ia,aq C.symm,S]
     .intro j a K;rcases bY.1 a with rfl|a
      .rw[S]at K;cases K
      .exact d.gone j a K
     .intro j a m;let ⟨l,h2⟩:=d.log j a m;exact⟨l,by rw[h2,Ia,b G]⟩
     .intro j X a x;let ⟨o,E⟩:=d.Bn j X a x;rw[Ia,b G]at E;exact⟨o,E⟩
     .intro m;refine d.wf ?_;intro q s c;rw[Ia]at c;split at c
      .rename_i w;cases c;exact⟨G,aaU L⟩
      .exact m q s c
    .split at h
     .rename_i o A;have d:=Ni M h;have g:∀j,bu j (pT i B ms)=if i=j then ad B else bu j ms:=by intro j;rw[Ea,A]
      refine⟨?_,?_,?_,?_,?_,?_,(SP i B ms).trans d.tl⟩
      .intro j a;simp only[bY,not_or]at a;rw[d.out j a.2,g,b<|λe=>a.1 e.symm]
      .intro j a;by_cases v:j∈r
       .exact d.Nh j v
       .have:j=i:=by simpa[v]using a
        subst this;rw[d.out j v,g,aq J,S]
      .intro j a K;rcases bY.1 a with rfl|a
       .rw[S]at K;cases K
       .exact d.gone j a K
      .intro j a m;let ⟨l,h2⟩:=d.log j a m;let ⟨y,z⟩:=SU a l;exact⟨y,by rw[h2,g,b<|λe=>z e.symm]⟩
      .intro j X a x;let ⟨D,l⟩:=d.Bn j X a x;rw[g]at l;split at l
       .rename_i w;subst w;exact⟨o,A⟩
       .exact⟨D,l⟩
      .intro m;refine d.wf ?_;intro q s c;rw[g]at c;split at c
       .rename_i w;cases c;subst w;exact⟨(m _ _ A).1,aaU L⟩
       .exact m q s c
     .cases h
   .cases h
  .rename_i S;split at h
   .rename_i o A;have d:=Ni M h;refine⟨?_,?_,?_,?_,?_,?_,(amc i ms).trans d.tl⟩
    .intro j a;simp only[bY,not_or]at a;rw[d.out j a.2,Bd,b<|λe=>a.1 e.symm]
    .intro j a;by_cases v:j∈r
     .exact d.Nh j v
     .have:j=i:=by simpa[v]using a
      subst this;rw[d.out j v,Bd,aq J,S]
    .intro j a K;rcases bY.1 a with rfl|a
     .exact⟨o,A⟩
     .exact d.gone j a K
    .intro j a m;let ⟨l,h2⟩:=d.log j a m;let ⟨y,z⟩:=SU a l;exact⟨y,by rw[h2,Bd,b<|λe=>z e.symm]⟩
    .intro j X a x;let ⟨D,l⟩:=d.Bn j X a x;rw[Bd]at l;split at l
     .cases l
     .exact⟨D,l⟩
    .intro m;refine d.wf ?_;intro q s c;rw[Bd]at c;split at c
     .cases c
     .exact m q s c
   .cases h
structure Left(g:Y)(dep n:Y)(t:Tr)(ms:Ms)(k:Y)(i:V Y)(l:Tr)(a:Ms)(d:Y)(f:V Y):Prop where
 le:k<=d
 dz:dz dep n l d
 eN:eN a d
 log:∀c,c<g->c∉f->c∉i/\bu c a=bu c ms
 Bn:∀c b,c<g->bu c a=ad b->∃m,bu c ms=ad m
 tl:lz ms a
def tI{d}{v}{i}{l}{f:Ft}{m}{a}{p}{c}{r:Ft}(g:tF d v t ms i l f= .ok m a p c r):m=jn d v t/\a=ms/\p=i/\c=l/\r=f/\∀u∈v.ak,u<i:=by
 unfold tF at g;split at g
 .rename_i x;simp only[Rs.ok.injEq]at g;let ⟨A,h2,B,C,F⟩:=g;exact⟨A.symm,h2.symm,B.symm,C.symm,F.symm,alX x⟩
 .cases g
def amj(cp:cd P tt=af){ke}(ph:ke<=k)(hn:n<=4^dep){M:bh}(hg:M.guard=none){d:aw (Y×V D4)}(hd:M.dst=d.map (·.1))(D1:∀x,d=ad x->x.2=cP dep x.1/\x.1<n){Q}(yX:Ef dep n (slotsOf M.op.operands.toList)=ad Q)
  (oI:dz dep n t k) (jo:eN ms k) {wl}{t'}{u5}{k'}{kA}{f:Ft} (c:SH tt n ke d Q M.op t ms k wl (nt Q t) (sc (yR<|nt Q t) ms)= .ok t' u5 k' kA f):
  ∃ks,fL P n #[M] 0 (bl dep n t ms.flatten) (bl dep n t' u5.flatten) k k' ks/\(∀g,Key.s g∈ks.1->g∈slotsOf M.op.operands.toList)/\(∀g,Key.s g∈ks.2->M.dst=ad g)/\(∀a,Key.m a∈ks.1->q5 f a)/\(∀a,Key.m a∈ks.2->mN f a)/\Left ke dep n t ms k wl t' u5 k' kA:=by
 have L:=abm yX
 have A:∀l x,St.kn ⟨nt Q t,sc (yR<|nt Q t) ms,0,[]⟩ l=ad x->(bl dep n t ms.flatten).kn l=ad x:=by
  intro l x D;cases l with
  |s g=>
   simp only[St.kn,cL]at D
   obtain⟨v,hv,rfl⟩:=D
   let ⟨W,E⟩:=abn (dep:=dep) (n:=n) (λy hy=>⟨(L y hy).1,(L y hy).2.1⟩) hv
   simp[bl,St.kn,sb,W,E]
  |m a=>
   simp only[St.kn,cL]at D
   obtain⟨v,hv,rfl⟩:=D
   simp[bl,St.kn,iZ,SQ hv]
 unfold SH at c
 split at c
 .rename_i R k1 ks hs;split at c
  .rename_i I;simp only[cr]at I;let ⟨⟨T,F⟩,As⟩:=I;have T:k1=k+1:=kO T;subst T;split at c
   .rename_i SV wl2 ha;have U:=Ni ph ha;rw[<-hd]at hs F;let ⟨rd,wr,w,fA,rB,hle,uq,Z⟩:=ahS cp (λ_ _ _ _ _ _ _ c=>by simp[aaV]at c) (o:=M) hg hs;have H:∀l,l∉ks.2->aE wr l=none:=by
     intro l hk;cases S:aE wr l with
     |none=>rfl
     |some x=>exact absurd (Z l<|zA<|by simp[n7,S]) hk
    have N:∀a,(o a SV.flatten).map Info.b=bH (bl dep n t ms.flatten).kn wr (.m a):=by
     intro a;rw[iZ];by_cases z:a∈mK ks.2
     .rw[U.Nh a z];have W:(o a R.mem).map Info.b=bH (St.kn ⟨nt Q t,sc (yR<|nt Q t) ms,0,[]⟩) wr (.m a):=by rw[<-rB];rfl
      rw[W];simp only[bH];cases S:aE wr (.m a)with
      |some x=>rfl
      |none=>
       simp only
       have E:(o a R.mem).map Info.b=(o a<|sc (yR<|nt Q t) ms).map Info.b:=by rw[W];simp only[bH,S];rfl
       cases hm:o a R.mem with
       |none=>
        let ⟨qC,hb⟩:=U.gone a z hm
        rw[hm,hb]at E
        simp at E
       |some qC=>
        rw[hm]at E
        simp only[ud]at E
        rw[show St.kn ⟨nt Q t,sc (yR<|nt Q t) ms,0,[]⟩ (.m a)=ad (Info.b qC)from E.symm]
        exact(A (.m a) (.b qC) E.symm).symm
     .rw[U.out a z];simp only[bH,H (.m a)<|λhc=>z<|Bm.2 hc];simp[bl,St.kn,iZ]
    have hL:∀{t'':Tr},dz dep n t'' (k+1)->Left ke dep n t ms k wl t'' SV (k+1) wl2:=λhw=>⟨G,hw,U.wf<|jo.le G,U.log,U.Bn,U.tl⟩
    cases d with
    |none=>
     simp only[Rs.ok.injEq]at c
     obtain⟨rfl,rfl,rfl,rfl,rfl⟩:=c
     have K:M.dst=none:=hd
     rw[K]at F
     refine⟨ks,⟨rd,wr,w,λkx X=>A _ _<|fA kx X,?_,hle,uq,Z⟩,?_,?_,?_,?_,hL<|oI.le G⟩
     .exact aaD dep n t ms.flatten _ wr N<|λg=>H _<|SS F g
     .intro g u;let ⟨x,D,e⟩:=jW.1<|Ng As g u;rw[<-e];exact(L x D).2.2
     .intro g u;exact absurd u<|SS F g
     .intro a r;exact Bm.2 r
     .intro a r;exact Bm.2 r
    |some x=>
     let ⟨O,dp⟩:=x
     let ⟨B,C⟩:=D1 (O,dp) J
     simp only at B C
     have K:M.dst=ad O:=hd
     rw[K]at F
     simp only at c
     split at c
     .rename_i v hv;obtain⟨rfl,rfl,rfl,rfl,rfl,q⟩:=tI c;subst B;refine⟨ks,⟨rd,wr,w,λkx X=>A _ _<|fA kx X,?_,hle,uq,Z⟩,?_,?_,?_,?_,hL<|(oI.le G).set hn C q⟩
      .funext l;cases l with
       |m a=>exact N a
       |s g=>
        rw[D5]
        simp only
        by_cases e:g=O
        .subst e;rw[aq C,H6];have W:bH (St.kn ⟨nt Q t,sc (yR<|nt Q t) ms,0,[]⟩) wr (.s g)=ad (.v v):=by rw[<-rB];simp[St.kn,hv]
         simp only[bH]at W⊢;cases S:aE wr (.s g)with
         |some y=>rw[S]at W;simp only at W⊢;rw[W];rfl
         |none=>rw[S]at W;simp only at W⊢;rw[A _ _ W];rfl
        .have rL:aE wr (.s g)=none:=H _<|λhc=>e<|Nd F g hc;simp only[bH,rL,bl,St.kn,sb];by_cases u:g<n
         .rw[aq u,aq u,D3 _ _ _ _ D6<|λe'=>e (Bc dep G G e').symm]
         .rw[b u,b u]
      .intro g u;let ⟨x,D,e⟩:=jW.1<|Ng As g u;rw[<-e];exact(L x D).2.2
      .intro g u;rw[K,Nd F g u]
      .intro a r;exact Bm.2 r
      .intro a r;exact Bm.2 r
     .cases c
   .cases c
  .cases c
 .cases d with
  |none=>cases c
  |some x=>
   let ⟨O,dp⟩:=x
   let ⟨B,C⟩:=D1 (O,dp) J
   simp only at B C
   subst B
   have K:M.dst=ad O:=hd
   dsimp only at c
   unfold M1 at c
   split at c
   .rename_i v p he;split at c
    .rename_i yM;obtain⟨rfl,rfl,rfl,rfl,rfl,q⟩:=tI c;have w:=P1 (P:=P) cp (ops:= #[M]) (i:=0) J hg K C he (D8 yM) k;refine⟨(bF M.op.operands.toList,[.s O]),fL.lK w (λkx X=>A _ _<|qq _ _ kx X) (D7 dep n t _ O v hn C) Ah lL,?_,?_,?_,?_,⟨G,(oI.le G).set hn C q,jo.le G,λ_ _ c=>⟨c,J⟩,λ_ qC _ c=>⟨qC,c⟩,lz.refl _⟩⟩
     .intro g u;exact Ep.2 u
     .intro g u;simp only[gI,Key.s.injEq]at u;rw[K,u]
     .intro a r;let ⟨g,u⟩:=yW r;cases u
     .intro a r;simp at r
    .cases c
   .cases c
end
section
variable{P:bZ}{tt:TT}{dep n:Y}{t:Tr}{ms:Ms}{k:Y}
def abp(g:Y->aw Info)(a:Y):∀l:V Y,aE (l.map λd=>(Key.m d,g d)) (.m a)=if a∈l then ad (g a)else none
 |[]=>rfl
 |i::l=>by
  simp only[hJ,aE,Key.m.injEq,abp g a l,bY];by_cases c:i=a
  .subst c;simp
  .simp[c,show a≠i from λf=>c f.symm]
def abq(g:Y->aw Info)(a:Y):∀l:V Y,aE (l.map λc=>(Key.m c,g c)) (.s a)=none
 |[]=>rfl
 |i::l=>by simp only[hJ,aE,reduceCtorEq,bN,abq g a l]
def abr:∀{l:V (Y×aN)}{c:Y}{d:aN},o c l=ad d->c∈l.map (·.1)
 |[],c,d,a=>by simp[o]at a
 | (g,x)::l,c,d,a=>by
  simp only[o]at a;split at a
  .rename_i f;simp[f]
  .exact jT _<|abr a
def SW:∀{l:V (Y×aN)}{c:Y},c∈l.map (·.1)->∃d,o c l=ad d
 |[],c,a=>by simp at a
 | (g,x)::l,c,a=>by
  simp only[o];split
  .exact⟨_,J⟩
  .rename_i f;rcases bY.1 a with a|a
   .exact absurd a.symm f
   .exact SW a
def aml{pj:l6}(om:uZ P pj)(hn:n<=4^dep){aI:bh}(hg:aI.guard=none){d:Y}(hd:aI.dst=ad d)(di:d<n){cf}{args}{jZ}(bV:aI.op= .call ⟨.value cf,args,jZ⟩){f}{vs}{ids}
  (ht:v7 (bl dep n t ms.flatten) cf args.toList=ad (f,vs,ids)) (z7:∀p∈ids,p<k) (xX:∀p∈cY vs,p<k) (jo:eN ms k) {r}{H}{k'}{L}(hc:pj f vs ms k= .ok r H k' L):
  ∃ks,fL P n #[aI] 0 (bl dep n t ms.flatten) (bl dep n (jn (cP dep d) r t) H.flatten) k k' ks/\(∀c,Key.s c∈ks.1->Key.s c∈bF (cf::args.toList))/\(∀c,Key.s c∈ks.2->c=d)/\(∀p,Key.m p∈ks.1->p<k)/\(∀p,Key.m p∈ks.2->(p∈L/\p<k)\/(k<=p/\p<k')):=by
 let ⟨O,SX,oh,Jh,hold,amm,LG,_⟩:=om.ok hc jo xX
 have C:∀p B,o p ms.flatten=ad B->p<k/\∀c∈B.ak,c<k:=λp B hb=>jo p B Nj
 let X:St:=bl dep n t ms.flatten
 let w:V (Key×aw Info):=(L.filter<|λp=>(o p ms.flatten).isSome).map<|λp=>(Key.m p,(o p H.flatten).map Info.b)
 let D:V (Key×aw Info):=(.s d,ad<|.v r)::(w++kN k H.flatten)
 let rd:=cE X cf++args.toList.flatMap (cE X)++fC X ids++fC X (ms.flatten.map (·.1))
 have GH:∀c,aE D (.m c)=if c∈L/\(o c ms.flatten).isSome=af then ad ((o c H.flatten).map Info.b)else if k<=c then(o c H.flatten).map (λB=>ad<|.b B)else none:=by
  intro c;simp only[D,w,aE,reduceCtorEq,bN,v3,abp (λp=>(o p H.flatten).map Info.b) c,Ab,n8];by_cases h:c∈L/\(o c ms.flatten).isSome=af
  .simp[h]
  .rw[b h,b h]
 have R:∀c,aE D (.s c)=if d=c then ad (ad<|.v r)else none:=by intro c;simp only[D,w,aE,v3,abq (λp=>(o p H.flatten).map Info.b) c,Aa,Key.s.injEq]
 have wA:∀c,c<k->c∉L->o c H.flatten=o c ms.flatten:=by intro c y T;rw[iZ,iZ];exact Jh c y T
 refine⟨(dx rd,fJ D),⟨rd,D,?_,?_,?_,O.le,λ_ h=>h,λ_ h=>h⟩,?_,?_,?_,?_⟩
 .intro F kE Q known σ g W a K vk aW fA hK;let ⟨us,hex,Hh,Wi⟩:=Wn aW bV ht O.call<|λE q=>fA E<|eh _ q;have BY:=vW (st:=X) (ids:=ms.flatten.map (·.1)) (σ:=σ)<|λE q=>fA E<|fZ _ q;have I:∀p B,o p ms.flatten=ad B->σ (.m p)=ad (.b B):=λp B hb=>BY p (abr hb) B hb
  have z6:d<a.tmps.size:=mj;have JX:=Wh O xX C (λp M=>by
    rcases SX p M with h|⟨B,hb⟩
    .exact .inl h
    .exact .inr ⟨B,by rw[iZ];exact hb⟩) (λp B hb=>by
    rcases oh p B Nj with h|h
    .exact .inl (by rw[iZ];exact h)
    .refine .inr<|λc U=>?_;rcases h c U with h|⟨b',nE⟩
     .exact .inl h
     .exact .inr ⟨b',by rw[iZ];exact nE⟩) aW vk Hh Wi I z6
  have amn:bH σ ((.s d,ad<|.v r)::(o9 H.flatten ms.flatten++kN k H.flatten))=bH σ D:=by
   funext A;cases A with
   |s c=>
    simp only[bH,R,aE,v3,FR,Aa,Key.s.injEq]
   |m c=>
    simp only[bH,GH,aE,reduceCtorEq,bN,v3,Kh,Ab]
    by_cases z:(o c ms.flatten).isSome=af
    .by_cases N:c∈L
     .simp[z,N]
     .let ⟨B,hb⟩:=FT.1 z;have hjk:=(C c B hb).1;simp only[z,b9,N,false_and,bN];rw[b G,wA c hjk N,hb,I c B hb];rfl
    .simp[z]
  rw[amn]at JX;unfold wpOp;simp only[tW,mn,Region.wanted,hg,b9];refine .inl ?_;unfold Oper.wp;rw[hex];simp only[Oper.upon,hd];refine JX.mono ?_;rintro e W' ⟨v,g',rfl,h'⟩;exact hK g' W' _ h'
 .intro E q;rcases bg.1 q with h|h
  .rcases bg.1 h with h|h
   .rcases bg.1 h with h|h
    .exact eG _ _ E h
    .let ⟨x,_,hx⟩:=iP.1 h;exact eG _ _ E hx
   .exact k9 _ _ E h
  .exact k9 _ _ E h
 .funext A;cases A with
  |s c=>
   simp only[bH,R,bl,St.kn,aaC dep n t d c r hn di]
   by_cases e:d=c<;>simp[e]
  |m c=>
   simp only[bH,GH,bl,St.kn]
   by_cases h:c∈L/\(o c ms.flatten).isSome=af
   .simp[h]
   .rw[b h];by_cases hk:k<=c
    .rw[aq hk];cases hx:o c H.flatten with
     |some B=>rfl
     |none=>
      have:o c ms.flatten=none:=by
       cases hy:o c ms.flatten with
       |none=>rfl
       |some B=>exact absurd (C c B hy).1 G
      simp[this]
    .rw[b hk];by_cases N:c∈L
     .have rL:o c ms.flatten=none:=by
       cases hy:o c ms.flatten with
       |none=>rfl
       |some B=>exact absurd ⟨N,nV⟩ h
      have:o c H.flatten=none:=by
       cases hy:o c H.flatten with
       |none=>rfl
       |some B=>
        rcases hold c B (by rw[<-iZ];exact hy)with y|⟨b0,y⟩
        .omega
        .rw[<-iZ,rL]at y;cases y
      rw[this,rL]
     .rw[wA c G N]
 .intro c U;have vM:∀A∈dx rd,A∈bF (cf::args.toList)\/∃p,A=Key.m p:=by
   intro A hk;simp only[dx,rd,fe,bg]at hk;rcases hk with((h|h)|h)|h
   .exact .inl (eo X (cf::args.toList) A<|by simp only[kH,dx,fe,bg];exact .inl h)
   .exact .inl (eo X (cf::args.toList) A<|by simp only[kH,dx,fe,bg];exact .inr h)
   .have:=jY X ids A h;right;revert this;generalize ids=l;intro this;induction l with
    |nil=>simp[cX]at this
    |cons i l S=>simp only[cX,bY]at this;exact this.elim (λe=>⟨i,e⟩) S
   .have:=jY X _ A h;right;revert this;generalize ms.flatten.map (·.1)=l;intro this;induction l with
    |nil=>simp[cX]at this
    |cons i l S=>simp only[cX,bY]at this;exact this.elim (λe=>⟨i,e⟩) S
  rcases vM _ U with h|⟨p,h⟩
  .exact h
  .cases h
 .intro c U;apply Decidable.byContradiction;intro Z;have:=R c;rw[b (λe=>Z e.symm)]at this;have T:∀{u:V (Key×aw Info)}{A:Key},A∈fJ u->aE u A≠none:=by
   intro u;induction u with
   |nil=>intro A h;simp[fJ]at h
   |cons x u S=>
    intro A h
    simp only[aE]
    split
    .simp
    .rename_i Z;simp only[fJ,hJ,bY]at h;rcases h with h|h
     .exact absurd h.symm Z
     .exact S h
  exact T U this
 .intro p M;simp only[dx,rd,fe,bg]at M;have n9:∀{l:V Y},Key.m p∈cX l->p∈l:=by
   intro l;induction l with
   |nil=>simp[cX]
   |cons i l S=>simp only[cX,bY,Key.m.injEq];exact λh=>h.elim .inl<|λh=> .inr<|S h
  have o7:∀{l:V dQ},Key.m p∉bF l:=by
   intro l;induction l with
   |nil=>simp[bF]
   |cons x l S=>cases x<;>simp[bF,S]
  rcases M with((h|h)|h)|h
  .exact absurd (eo X [cf] (.m p) JG) o7
  .exact absurd (eo X args.toList (.m p) h) o7
  .exact z7 p<|n9<|jY X ids _ h
  .let ⟨B,hb⟩:=SW<|n9<|jY X _ _ h;exact(C p B hb).1
 .intro p M;simp only[fJ,D,w,hJ,fe,bY,reduceCtorEq,false_or,bg,LA]at M;rcases M with h|h
  .let ⟨c,U,e⟩:=jW.1 h;simp only[Function.comp,Key.m.injEq]at e;subst e;let ⟨y,T⟩:=n8.1 U;let ⟨B,hb⟩:=FT.1 T;exact .inl ⟨y,(C _ B hb).1⟩
  .right;have N:∀{l:V (Y×aN)},Key.m p∈(kN k l).map (·.1)->k<=p/\p∈l.map (·.1):=by
    intro l;induction l with
    |nil=>simp[kN]
    |cons x l S=>
     let ⟨i,B⟩:=x
     simp only[kN]
     split
     .rename_i Af;simp only[hJ,bY,Key.m.injEq];rintro(rfl|h)
      .exact⟨Af,.inl J⟩
      .exact⟨(S h).1,.inr (S h).2⟩
     .intro h;exact⟨(S h).1,jT _ (S h).2⟩
   let ⟨y,T⟩:=N h;let ⟨B,hb⟩:=SW T;exact⟨y,(amm p B Nj).1⟩
end
def q6:aw Y->V Key
 |some d=>[.s d]
 |none=>[]
def abt(op:Op):oH op=op.operands.toList:=by
 unfold oH;split
 .rename_i c args a;simp[abu,Call.operands]
 .rfl
section
variable{P:bZ}{tt:TT}{dep n:Y}{t:Tr}{ms:Ms}{k:Y}
def amp{l}{d}{c}(g:c.1=bF l)(i:c.2=[.s d]):yU (bF l,[.s d]) c .n:=by
 refine⟨λf a=>?_,λf a=>?_⟩
 .obtain⟨j,rfl⟩:=yW a;simp only[g];exact a
 .simp only[gI]at a;subst a;simp[i]
def abv{i}(l:n<=4^dep){d}(a:d<n)(c:dz dep n t k)(f:eN ms k){g}{v}(m:∀p∈v.ak,p<k+1):Left i dep n t ms k g (jn (cP dep d) v t) ms (k+1) g:=
 ⟨G,(c.le G).set l a m,f.le G,λ_ _ h=>⟨h,J⟩,λ_ b _ h=>⟨b,h⟩,lz.refl _⟩
def amq{f}{c g}{d}(i:d<f)(a:d∉M5 f c g):d∉c/\d∉g:=by
 unfold M5 at a;split at a
 .exact⟨ay,a⟩
 .simp only[bg,n8,not_or,not_and]at a;exact⟨λl=>a.1 l (by simpa[rP]using i),a.2⟩
def amr{g:l6}{u}{d}{f}{vs}{v}{x}{i}{p}{l}{A:Ft}(m:Ec g u d f vs t ms k v= .ok x i p l A):
  ∃r a,g f vs ms k= .ok r i p a/\x=jn d r t/\l=M5 u a v/\A= .c k p a:=by
 unfold Ec at m
 split at m
 .rename_i r B F a C;obtain⟨rfl,rfl,rfl,rfl,rfl,_⟩:=tI m;exact⟨r,a,C,J,J,J⟩
 .cases m
def SZ{p:l6}(a:uZ P p){Q}(ph:Q<=k)(hn:n<=4^dep){l:bh}(hg:l.guard=none){d:Y}(hd:l.dst=ad d)(u:d<n){cf}{args}{S}(v:l.op= .call ⟨.value cf,args,S⟩){f}{vs}{ids}
  (ht:v7 (bl dep n t ms.flatten) cf args.toList=ad (f,vs,ids)) (x:∀c∈ids,c<k) (A:∀c∈cY vs,c<k) (W:dz dep n t k) (B:eN ms k) {wl}{t'}{g}{k'}{F}{ft:Ft} (cF:Ec p Q (cP dep d) f vs t ms k wl= .ok t' g k' F ft):
  ∃L,fL P n #[l] 0 (bl dep n t ms.flatten) (bl dep n t' g.flatten) k k' L/\yU L (bF<|oH l.op,q6 l.dst) ft/\Left Q dep n t ms k wl t' g k' F:=by
 obtain⟨r,z,w,rfl,rfl,rfl⟩:=amr cF
 let ⟨L,hx,D,h2,E,I⟩:=aml a hn hg hd u v ht x A B w
 let ⟨C,J,N,X,hold,H,e,q⟩:=a.ok w B A
 refine⟨L,hx,⟨λi K=>?_,λi K=>?_⟩,⟨C.le,(W.le C.le).set hn u e,H,λj y O=>?_,λj b y R=>?_,q⟩⟩
 .cases i with
  |s j=>simp only[oH,v];exact D j K
  |m c=>exact E c K
 .cases i with
  |s j=>simp only[hd,q6];rw[h2 j K];simp
  |m c=>exact I c K
 .let ⟨M,T⟩:=amq y O;exact⟨T,X j G M⟩
 .rcases hold j b R with M|M
  .omega
  .exact M
def abw(B:cd P tt=af){pj:l6}(om:uZ P pj){ke}(ph:ke<=k)(hn:n<=4^dep){o}(hg:o.guard=none){i}(r:Ig dep n o.dst o.op=ad i)(L:dz dep n t k)(F:eN ms k){wl}{t'}{M}{k'}{kA}{f:Ft}
  (h:pU pj tt n ke i t ms k wl= .ok t' M k' kA f):
  (∃ks,fL P n #[o] 0 (bl dep n t ms.flatten) (bl dep n t' M.flatten) k k' ks/\yU ks (bF<|oH o.op,q6 o.dst) f/\Left ke dep n t ms k wl t' M k' kA)/\(nv o=ah->f= .n):=by
 have gen:∀{d:aw Y},o.dst=d->(∀x,d=ad x->x<n)->M7 dep n d o.op=ad i->∃ks,fL P n #[o] 0 (bl dep n t ms.flatten) (bl dep n t' M.flatten) k k' ks/\yU ks (bF<|oH o.op,q6 o.dst) f/\Left ke dep n t ms k wl t' M k' kA:=by
  intro d hd g N;unfold M7 at N;split at N
  .rename_i sl yX;have C:∀dd:aw (Y×V D4),d=dd.map (·.1)->(∀x,dd=ad x->x.2=cP dep x.1/\x.1<n)->i= .gen dd sl o.op->∃ks,fL P n #[o] 0 (bl dep n t ms.flatten) (bl dep n t' M.flatten) k k' ks/\yU ks (bF<|oH o.op,q6 o.dst) f/\Left ke dep n t ms k wl t' M k' kA:=by
    intro dd S0 D1 X;subst X;let ⟨ks,E,H,K,Q,S,W⟩:=amj B ph hn hg (hd.trans S0) D1 yX L F h;refine⟨ks,E,⟨λC A=>?_,λC A=>?_⟩,W⟩
    .cases C with
     |s j=>simp only[abt];exact Ep.1<|H j A
     |m O=>exact Q O A
    .cases C with
     |s j=>simp[K j A,q6]
     |m O=>exact S O A
   cases d with
   |some d=>
    simp only[ar]at N
    exact C (ad (d,cP dep d)) J (λx E=>by cases E;exact⟨J,g d J⟩) N.symm
   |none=>
    simp only[ar]at N
    exact C none J (λx E=>by cases E) N.symm
  .cases N
 unfold Ig at r
 split at r
 .rename_i hd;split at r
  .rename_i ty x y bV;refine⟨?_,λse=>by simp[nv,hd]at se⟩;split at r
   .rename_i p q hp hq;cases r;simp only[pU,aa6,aa5]at h;split at h
    .rename_i v w hv hw
     .split at h
      .rename_i O U us sT;split at h
       .rename_i Z;simp only[Rs.ok.injEq]at h;obtain⟨rfl,rfl,rfl,rfl,rfl⟩:=h;let ⟨E,b0,Ax,Im⟩:=amh (P:=P) (k:=k) B hg hd bV (kz hp hv) (kz hq hw) sT;have S4:∀j,bu j (pT O U ms)=if O=j then ad U else bu j ms:=λj=>by rw[Ea,Ax]
        refine⟨_,E,⟨λC A=>?_,λC A=>?_⟩,⟨G,L.le G,?_,?_,?_,SP O U ms⟩⟩
        .rcases bg.1 A with A|A
         .obtain⟨j,rfl⟩:=yW A;simpa[oH,bV,abu]using A
         .simp only[cX,gI]at A;subst A;simp[q5]
        .simp only[gI]at A;subst A;simp[mN]
        .intro j b' I;rw[S4]at I;split at I
         .rename_i cz;cases I;subst cz;exact⟨Nk (F _ _ Ax).1,λj hj=>Nk<|(Im j hj).elim ((F _ _ Ax).2 j)<|yP Z j⟩
         .exact(F.le<|Nat.le_succ k) j b' I
        .intro j hj hw';let ⟨H,K⟩:=SU hj hw';exact⟨H,by rw[S4,b<|λcz=>K cz.symm]⟩
        .intro j b' _ I;rw[S4]at I;split at I
         .rename_i cz;subst cz;exact⟨b0,Ax⟩
         .exact⟨b',I⟩
       .cases h
      .cases h
    .cases h
   .cases r
  .exact⟨gen hd (λx E=>by cases E) r,λse=>by simp[nv,hd]at se⟩
 .rename_i d hd;split at r
  .cases r
  .rename_i g;have g:d<n:=yV g;have pv:∀{v:AV},t'=jn (cP dep d) v t->M=ms->k'=k+1->kA=wl->f= .n->(∀O∈v.ak,O<k+1)->fL P n #[o] 0 (bl dep n t ms.flatten) (bl dep n (jn (cP dep d) v t) ms.flatten) k (k+1) (bF o.op.operands.toList,[.s d])->
     (∃ks,fL P n #[o] 0 (bl dep n t ms.flatten) (bl dep n t' M.flatten) k k' ks/\yU ks (bF<|oH o.op,q6 o.dst) f/\Left ke dep n t ms k wl t' M k' kA)/\(nv o=ah->f= .n):=by
    rintro v rfl rfl rfl rfl rfl Z E
    exact⟨⟨_,E,amp (by rw[abt]) (by rw[hd];rfl),abv hn g L F Z⟩,λ_=>rfl⟩
   split at r
   .rename_i x bV;split at r
    .rename_i p hp;cases r;simp only[pU,SI]at h;split at h
     .rename_i v hv;let ⟨H,K,Q,S,W,D⟩:=tI h;exact pv H K Q S W D<|Bl B hg hd g hn (p:= .t) (by simp only[bV,sA,kz hp hv]) e
     .cases h
    .cases r
   .rename_i x bV;split at r
    .rename_i p hp;cases r;simp only[pU,SI]at h;split at h
     .rename_i v hv;let ⟨H,K,Q,S,W,D⟩:=tI h;exact pv H K Q S W D<|Bl B hg hd g hn (p:= .t) (by simp only[bV,sA,kz hp hv]) e
     .cases h
    .cases r
   .rename_i bo ty x y ty2 bV;split at r
    .rename_i p q hp hq;cases r;simp only[pU,aaZ,aaY,aaX,aaW]at h;split at h
     .rename_i a U ha hb
      .split at h
       .rename_i c pr LF;split at h
        .rename_i yM;simp only[Rs.ok.injEq]at h;let ⟨H,K,Q,S,W⟩:=h;refine pv H.symm K.symm Q.symm S.symm W.symm (λO eD=>?_)<|Bl B hg hd g hn (p:=pr) (by simp only[bV,sA,kz hp ha,kz hq hb,LF])<|D8 yM;simp only[AV.ak,Vp LF]at eD;cases eD
        .cases h
       .split at h
        .rename_i u hnt;let ⟨H,K,Q,S,W,D⟩:=tI h;exact pv H K Q S W D<|amf B hg hd g hn (p:= .t) (by simp only[bV,uj,kz hp ha,kz hq hb,hnt]) e
        .cases h
     .cases h
    .cases r
   .rename_i ty x y bV;split at r
    .rename_i p q hp hq;cases r;simp only[pU,aa0]at h;split at h
     .rename_i v w hv hw
      .unfold M1 at h;split at h
       .rename_i u pr X;split at h
        .rename_i yM;let ⟨H,K,Q,S,W,D⟩:=tI h;unfold aaJ at X;split at X
         .rename_i z hz;cases X;exact pv H K Q S W D<|abl B hg hd g hn (p:=pr) (by simp only[bV,CS,kz hp hv,kz hq hw,hz])<|D8 yM
         .exact pv H K Q S W D<|Bl B hg hd g hn (p:=pr) (by simp only[bV,sA,kz hp hv,kz hq hw,X])<|D8 yM
        .cases h
       .cases h
     .cases h
    .cases r
   .rename_i ty x fi bV;split at r
    .rename_i p hp;cases r;simp only[pU,aa1]at h;split at h
     .rename_i v hv;split at h
      .rename_i u hu;let ⟨H,K,Q,S,W,D⟩:=tI h;exact pv H K Q S W D<|Bl B hg hd g hn (p:= .t) S5 e
      .cases h
     .cases h
    .cases r
   .rename_i x j bV;split at r
    .rename_i p hp;cases r;simp only[pU,aa2]at h;split at h
     .rename_i v hv;split at h
      .rename_i u hu;let ⟨H,K,Q,S,W,D⟩:=tI h;exact pv H K Q S W D<|Bl B hg hd g hn (p:= .t) S5 e
      .cases h
     .cases h
    .cases r
   .rename_i ty x bV;refine⟨?_,λse=>Nl⟩;split at r
    .rename_i p hp;cases r;simp only[pU,aa4]at h;split at h
     .rename_i v hv;split at h
      .rename_i u ids hu;obtain⟨rfl,rfl,rfl,rfl,rfl,D⟩:=tI h;refine⟨_,amg B hg hd g hn bV (kz hp hv) hu,⟨λC A=>?_,λC A=>?_⟩,abv hn g L F D⟩
       .rcases bg.1 A with A|A
        .obtain⟨j,rfl⟩:=yW A;simpa[oH,bV,abu]using A
        .cases C with
         |s j=>exfalso;revert A;generalize ids=l;intro A;induction l with
          |nil=>simp[cX]at A
          |cons a l ih=>simp[cX]at A;exact ih A
         |m O=>simp only[q5];revert A;generalize ids=l;intro A;induction l with
          |nil=>simp[cX]at A
          |cons a l ih=>simp only[cX,bY,Key.m.injEq]at A⊢;exact A.elim .inl<|λh=> .inr<|ih h
       .simp only[gI]at A;subst A;simp[hd,q6]
      .cases h
     .cases h
    .cases r
   .rename_i fn args jZ bV;refine⟨?_,λse=>Nl⟩;split at r
    .rename_i ps R;cases r;simp only[pU,aa7]at h;split at h
     .rename_i vs T;exact SZ om ph hn hg hd g bV (ids:=[]) (by simp only[v7,Nb R T,St.ev]) (λ_ h=>er) (Nc L R T) L F h
     .cases h
    .cases r
   .rename_i j args jZ bV;refine⟨?_,λse=>Nl⟩;split at r
    .rename_i p ps hp R;cases r;simp only[pU,aa8]at h;split at h
     .rename_i vs T;split at h
      .rename_i fn E;exact SZ om ph hn hg hd g bV (ids:=[]) (by simp only[v7,Nb R T,kz hp E]) (λ_ h=>er) (Nc L R T) L F h
      .rename_i O E;split at h
       .rename_i fn first z1 hb
        split at h
        .rename_i us ws hu hw;have hlb:iO O (bl dep n t ms.flatten).mem=ad (.jG fn first z1):=by show iO O ms.flatten=_;rw[iZ];exact hb
         refine SZ om ph hn hg hd g bV (ids:=[O]) (by simp only[v7,Nb R T,kz hp E,hlb,hu,hw]) (λi X=>?_) (λi X=>?_) L F h
         .simp only[gI]at X;subst X;exact(F _ _ hb).1
         .rw[Kk,Kk]at X;have Im:=(F _ _ hb).2;simp only[aN.ak,bg]at Im;rcases bg.1 X with X|X
          .exact Im i<|.inl<|C0 hu i X
          .rcases bg.1 X with X|X
           .exact Nc L R T i X
           .exact Im i<|.inr<|C0 hw i X
        .cases h
       .cases h
      .cases h
     .cases h
    .cases r
   .rename_i x ty bV;refine⟨?_,λse=>Nl⟩;split at r
    .rename_i p hp;cases r;simp only[pU,aa3]at h;split at h
     .rename_i v hv;split at h
      .rename_i u hu;let ⟨H,K,Q,S,W,D⟩:=tI h;unfold aaK at hu;split at hu
       .rename_i z hz;cases hu;exact(pv H K Q S W D<|abl B hg hd g hn (p:= .t) (by simp only[bV,CS,kz hp hv,hz]) e).1
       .exact(pv H K Q S W D<|Bl B hg hd g hn (p:= .t) S5 e).1
      .cases h
     .cases h
    .cases r
   .rename_i H K Q S W D h7 h8 h9 h10;refine⟨gen hd (λx E=>by cases E;exact g) r,λse=>?_⟩;exfalso;unfold nv at se;rw[hd]at se;revert se;clear pv gen h r;cases bV:o.op with
    |move x=>exact absurd bV<|H x
    |assign x=>exact absurd bV<|K x
    |binOp a U c d cz=>exact absurd bV<|Q a U c d cz
    |indexAddr a U c=>exact absurd bV<|S a U c
    |fieldAddr a U c=>exact absurd bV<|W a U c
    |extract a U=>exact absurd bV<|D a U
    |_=>simp
end
section
variable{P:bZ}{tt:TT}{dep n:Y}{t:Tr}{ms:Ms}{k:Y}
def Left.refl{f}{d}(a:Go.El.dz dep n t k)(c:Go.El.eN ms k):Left f dep n t ms k d t ms k d:=⟨a7 _,a,c,λ_ _ h=>⟨h,J⟩,λ_ b _ h=>⟨b,h⟩,lz.refl _⟩
def Left.trans{m}{r}{u v}{a c}{x A}{d f}(l:Left m dep n t ms k r u a x d)(g:Left m dep n u a x d v c A f):Left m dep n t ms k r v c A f:=
 ⟨cj l.le g.le,g.dz,g.eN,λj i B=>by
  let ⟨p,h2⟩:=g.log j i B;let ⟨C,F⟩:=l.log j i p;exact⟨C,h2.trans F⟩,λj b i H=>by
  let ⟨K,p⟩:=g.Bn j b i H;exact l.Bn j K i p,l.tl.trans g.tl⟩
def amv{d}{op:Op}{i}(a:Ig dep n (ad d) op=ad i):d<n:=by
 unfold Ig at a;simp only at a;split at a
 .cases a
 .rename_i c;exact yV c
def abx(cp:cd P tt=af){pj:l6}(H:uZ P pj){ke}(ph:ke<=k)(hn:n<=4^dep){r}{i}{p}(ho:r[i]? =ad p){gi:GI}(u:SJ dep n r.toList p=ad gi)(L:dz dep n t k)(M:eN ms k){wl}{t'}{Q}{k'}{kA}{f:Ft}
  (l:uR pj tt n ke gi t ms k wl= .ok t' Q k' kA f):
  (∃ks,fL P n r i (bl dep n t ms.flatten) (bl dep n t' Q.flatten) k k' ks/\yU ks (xa r.toList p) f/\Left ke dep n t ms k wl t' Q k' kA)/\(nv p=ah->f= .n):=by
 unfold SJ at u
 split at u
 .rename_i y A;split at u
  .rename_i S;cases u;simp only[uR]at l;let ⟨⟨ks,z,h2,D⟩,E⟩:=abw cp H ph hn S A L M l;refine⟨⟨ks,z.lift ho S,?_,D⟩,E⟩;have:xa r.toList p=(bF<|oH p.op,q6 p.dst):=by unfold xa q6;rw[S];cases p.dst<;>rfl
   rw[this];exact h2
  .rename_i j v S;split at u
   .rename_i X I;split at u
    .rename_i W;have W:X<n:=yV W;have a:xa r.toList p=(.s X::bF (oH p.op),q6 p.dst):=by unfold xa q6;rw[S];simp only[I];cases p.dst<;>rfl
     have N:gi.g=ad (cP dep X,v)/\gi.i=y/\gi.d=p.dst.map (cP dep):=by
      split at u
      .rename_i d K;cases u;exact⟨J,J,by rw[K];rfl⟩
      .rename_i K;cases u;exact⟨J,J,by rw[K];rfl⟩
     let ⟨O,e,R⟩:=N;simp only[uR,O,e,R]at l;split at l
     .rename_i b T;have q:o X (bl dep n t ms.flatten).sl=ad (.c<|.B b):=by show o X (eC dep n t)=_;rw[sb,aq W];exact T
      split at l
      .rename_i x;have x:b=v:=by simpa using x
       subst x;let ⟨⟨ks,z,h2,D⟩,E⟩:=abw (o:={p with guard:=none}) cp H ph hn J A L M l;refine⟨⟨_,fL.guard ho S I q z,⟨λC F=>?_,h2.2⟩,D⟩,E⟩
       .rcases bY.1 F with rfl|F
        .simp[a]
        .have:=h2.1 C F;cases C with
         |s j=>rw[a];exact jT _ this
         |m id=>exact this
      .rename_i x;cases K:p.dst with
       |none=>rw[K]at l;cases l
       |some d=>
        rw[K]at l A
        simp only[ud,Rs.ok.injEq]at l
        obtain⟨rfl,rfl,rfl,rfl,rfl⟩:=l
        have w:=amv A
        refine⟨⟨_,fL.PK (agy ho S I q (by cases b<;>cases v<;>simp at x⊢) K) ?_,⟨λC F=>?_,λC F=>?_⟩,⟨G,(L.le G).del hn w,M.le G,λ_ _ l=>⟨l,J⟩,λ_ b _ l=>⟨b,l⟩,lz.refl _⟩⟩,λ_=>rfl⟩
        .rw[alU dep n t ms.flatten d hn w,Vx]
        .simp only[gI]at F;subst F;simp[a]
        .simp only[gI]at F;subst F;simp[a,K,q6]
     .cases l
    .cases u
   .cases u
 .cases u
def aby{a:l6}{i:Y}:∀{A:V GI}{t:Tr}{ms:Ms}{k:Y}{g:V Y}{l:Tr}{c:Ms}{m:Y}{d:V Y}{f:Ft},uS a tt n i A t ms k g= .ok l c m d f->∀u,∃v,w8 a tt n i A t ms k g u= .ok l c m d v
 |[],t,ms,k,g,l,c,m,d,f,p,u=>by have B:Rs.ok t ms k g .n= .ok l c m d f:=p;simp only[Rs.ok.injEq]at B;obtain⟨rfl,rfl,rfl,rfl,rfl⟩:=B;exact⟨u,J⟩
 |x::r,t,ms,k,g,l,c,m,d,f,p,u=>by
  have F:uS a tt n i (x::r) t ms k g=match uR a tt n i x t ms k g with| .ok l c m d _=>uS a tt n i r l c m d| .no=> .no:=rfl
  have H:w8 a tt n i (x::r) t ms k g u=match uR a tt n i x t ms k g with| .ok l c m d f=>w8 a tt n i r l c m d (f::u)| .no=> .no:=rfl
  rw[F]at p;rw[H];cases C:uR a tt n i x t ms k g with
  |no=>rw[C]at p;cases p
  |ok t1 K M L f1=>
   rw[C]at p
   exact aby p _
def abz(cp:cd P tt=af){r:l6}(F:uZ P r){ke:Y}(hn:n<=4^dep){p:Array bh}:∀(H:V bh)(i:Y){gs:V GI}{t:Tr}{ms:Ms}{k:Y}{Q:V Y}{S:V Ft}{L:Tr}{d:Ms}{M:Y}{m:V Y}{u:V Ft},
  w8 r tt n ke gs t ms k Q S= .ok L d M m u->uT dep n p.toList H=ad gs->az i p.toList=H->ke<=k->dz dep n t k->eN ms k->
  ∃(ds:V (V (Key×Info)×V (Key×aw Info)))(cl:V Y)(kk:V Ks)(fk:V Ft),Steps P n p i H (bl dep n t ms.flatten) (bl dep n L d.flatten) k M ds cl/\VD ds kk/\u=fk.reverse++S/\Z fk=Z H/\(∀(c:Y) a aI f,kk[c]? =ad a->H[c]? =ad aI->fk[c]? =ad f->yU a (xa p.toList aI) f/\(nv aI=ah->f= .n))/\Left ke dep n t ms k Q L d M m
 |[],i,gs,t,ms,k,Q,S,L,d,M,m,u,x,hc,_,_,W,jo=>by simp only[uT,ar]at hc;subst hc;have h':Rd.ok t ms k Q S= .ok L d M m u:=x;simp only[Rd.ok.injEq]at h';obtain⟨rfl,rfl,rfl,rfl,rfl⟩:=h';refine⟨[],[k],[],[],⟨J,J,J,J,?_,ay,ay,J⟩,⟨J,λc x=>by simp at x⟩,ay,J,λc a aI f x=>by simp at x,Left.refl W jo⟩;intro c a b _ h2;simp at h2
 |aI::H,i,gs,t,ms,k,Q,S,L,d,M,m,u,x,hc,v,e,W,jo=>by
  simp only[uT]at hc;split at hc
  .rename_i g q hg D;cases hc;have e2:w8 r tt n ke (g::q) t ms k Q S=match uR r tt n ke g t ms k Q with| .ok L d M m f=>w8 r tt n ke q L d M m (f::S)| .no=> .no:=rfl
   rw[e2]at x;split at x
   .rename_i t1 ms1 k1 S6 f1 hs;have ho:p[i]? =ad aI:=by have:=a8 (λl=>l[0]?) v;simpa[vz]using this
    have A:az (i+1) p.toList=H:=by rw[<-qu,v];rfl
    let ⟨⟨ks,⟨rd,wr,E,I,s,hle,N,O⟩,R,z⟩,w⟩:=abx cp F e hn ho hg W jo hs;let ⟨ds,cl,kk,fk,B,⟨T,U⟩,Io,S7,y,hL2⟩:=abz cp F hn H (i+1) x D A (cj e z.le) z.dz z.eN;refine⟨(rd,wr)::ds,k::cl,ks::kk,f1::fk,⟨by simp[B.len],by simp[B.WN],J,by simpa using B.last,?_,?_,?_,?_⟩,⟨by simp[T],λc hj hj'=>?_⟩,by rw[Io];simp,by simp[S7],?_,z.trans hL2⟩
    .intro c a b ha hb;cases c with
     |zero=>
      simp only[mn,ar,eF,vo]at ha hb
      rw[B.first]at hb
      cases hb
      omega
     |succ c=>exact B.mono c a b Cu vD
    .intro c hj a b ha hb;cases c with
     |zero=>
      simp only[mn,ar,eF,vo]at ha hb
      rw[B.first]at hb
      cases hb
      subst ha
      simpa using E
     |succ c=>
      have:=B.step c sH a b Cu vD
      rw[(G:i+(c+1)=i+1+c)]
      simpa using this
    .intro c hj kx C;cases c with
     |zero=>simp only[vr]at C;simpa[rK]using I kx C
     |succ c=>
      simp only[Cb]at C
      have:=B.reads c sH kx C
      rw[s]at this
      simpa[rK]using this
    .rw[B.fin,s];simp[rK]
    .cases c with
     |zero=>exact⟨N,O⟩
     |succ c=>exact U c sH (by simpa using hj')
    .intro c a o' f' ha K X;cases c with
     |zero=>
      simp only[mn,ar]at ha K X
      subst ha K X
      exact⟨R,w⟩
     |succ c=>exact y c a o' f' Cu (by simpa using K) (by simpa using X)
   .cases x
  .cases hc
def amz(jV:P.follows .mixedOrders=af){F}{r}{d}{H M}{k x}{m}{L}(A:Steps P F.n d 0 d.toList H M k x m L)
  (Q:r=af->(∀i aI cz,d[i]? =ad aI->cz∈aI.after->Region.binds .any cz=af->cz.on<i)/\
   ∀i l,i<l->l<d.size->∀f,((f∈fJ (E m i ([],[])).2/\f∈fJ (E m l ([],[])).2)\/(f∈fJ (E m i ([],[])).2/\f∈dx (E m l ([],[])).1)\/(f∈dx (E m i ([],[])).1/\f∈fJ (E m l ([],[])).2))->lG d i l)
 {id}{nJ:Exit->Act->World->Prop} (hQ:∀g W a,bw F (·<x) M.kn g W a->nJ .normal a W)
 {g}{W}{a}(h0:bw F (·<k) H.kn g W a) (S:zy F.rd d):(Code.region id d r).wpIn (fw F.rd) 0 P nJ a W:=by
 have U:Z m=d.size:=by simpa using A.len
 have V:Z L=d.size+1:=by simpa using A.WN
 let c:Y->Y:=λl=>E L l x
 have p:∀l,l<d.size+1->L[l]? =ad (c l):=by intro l C;have:l<Z L:=G;simp only[c,aV,cH this,qe]
 have u:L[d.size]? =ad x:=by simpa using A.last
 have I:∀i,c i<=c (i+1):=by
  intro i;rcases oV i d.size with s|s
  .exact A.mono i _ _ (p i G)<|p (i+1) G
  .have h:c (i+1)=x:=by simp only[c,aV];rw[jQ G];rfl
   rcases oV d.size i with w|w
   .have y:c i=x:=by simp only[c,aV];rw[jQ G];rfl
    omega
   .have:i=d.size:=by omega
    subst this;have y:c d.size=x:=by simp only[c,aV,u,qe]
    omega
 have z:c 0=k:=by simp only[c,aV,A.first,qe]
 have D:c d.size=x:=by simp only[c,aV,u,qe]
 have N:∀i,i<d.size->vn P F.n d i ((E m i ([],[])).1) ((E m i ([],[])).2) (rz c i):=by intro i s;have:=A.step i G _ _ (p i G)<|p (i+1) G;rw[zR m _ i G];rw[eF]at this;exact this
 have O:∀i,i<d.size->∀q∈(E m i ([],[])).1,fold (λi=>(E m i ([],[])).2) H.kn (cc i) q.1=ad q.2:=by intro i s q K;rw[JJ m H.kn i G];rw[zR m _ i G]at K;exact A.reads i G q K
 have B:∀g W a,bw F (·<c d.size) (fold (λi=>(E m i ([],[])).2) H.kn<|cc d.size) g W a->nJ .normal a W:=by intro g W a T;refine hQ g W a ?_;rw[A.fin];rw[JJ m H.kn d.size G,iK G,D]at T;exact T
 have X:bw F (·<c 0) H.kn g W a:=by rw[z];exact h0
 cases r with
 |false=>exact U' I X N O B S
 |true=>
  let ⟨y,h⟩:=Q J
  exact Va I jV y X N O (λi l v C f a b=>h i l v C f<|.inl ⟨a,b⟩) (λi l v C f a b=>h i l v C f<|.inr<|.inl ⟨a,b⟩) (λi l v C f a b=>h i l v C f<|.inr<|.inr ⟨a,b⟩) B S
def S8{k f:Y}{i:V Y}:∀{l:V Y},Ie k f i l=ah->∀a∈l,a∉i/\¬(k<=a/\a<f)
 |[],_,a,c=>by cases c
 |x::r,c,a,d=>by
  simp only[Ie]at c;split at c
  .cases c
  .rename_i m;split at c
   .cases c
   .rename_i p;rcases bY.1 d with rfl|d
    .refine⟨λg=>(by rw[Nf.2 g]at m;cases m),λg=>?_⟩;have:(eJ k a&&dk a f)=af:=by simp[Nat.ble_eq,rP,g]
     rw[this]at p;cases p
    .exact S8 c a d
def Nm{k:Y}:∀{l:V Y},If k l=ah->∀c∈l,k<=c
 |[],_,c,d=>by cases d
 |x::r,d,c,a=>by
  simp only[If]at d;split at d
  .cases d
  .rename_i i;rcases bY.1 a with rfl|a
   .rcases oV c k with f|g
    .have:dk c k=af:=by simpa[rP]using f
     rw[this]at i;cases i
    .exact g
   .exact Nm d c a
def S9{l m}:Ed l m=ah->∀c∈l,c∉m:=by
 induction l with
 |nil=>intro _ c h;cases h
 |cons x r f=>
  intro h c a
  simp only[Ed]at h
  split at h
  .cases h
  .rename_i d;rcases bY.1 a with rfl|a
   .intro g;rw[Nf.2 g]at d;cases d
   .exact f h c a
def amA{f g:Ft}(d:Bi f g=ah) id:¬(mN f id/\mN g id)/\¬(mN f id/\q5 g id)/\¬(q5 f id/\mN g id):=by
 cases f with
 |n=>simp[mN,q5]
 |m r w=>
  cases g with
  |n=>simp[mN,q5]
  |m x A=>
   simp only[Bi,S']at d
   exact⟨λa=>S9 d.1.1 id a.1 a.2,λa=>S9 d.1.2 id a.1 a.2,λa=>S9 d.2 id a.1 a.2⟩
  |c k u wl=>
   simp only[Bi,S']at d
   have v:w=[]:=by cases w<;>simp at d⊢
   subst v
   refine⟨by simp[mN],by simp[mN],λa=>?_⟩
   let ⟨l,p⟩:=S8 d.2 id a.1
   rcases a.2 with i|i
   .exact l i.1
   .exact p i
 |c k u wl=>
  cases g with
  |n=>simp[mN,q5]
  |m r w=>
   simp only[Bi,S']at d
   refine⟨λa=>?_,λa=>?_,λa=>?_⟩
   .have l:=Nm d.1.1 id a.2;have p:=Nm d.1.2 id a.2;rcases a.1 with i|i<;>omega
   .let ⟨l,p⟩:=S8 d.2 id a.2;rcases a.1 with i|i
    .exact l i.1
    .exact p i
   .have l:=Nm d.1.1 id a.2;have:id<k:=a.1;omega
  |c _ _ _=>simp[Bi]at d
def abA{f:V Ft}:∀{l:V (Y×Y)},Ee f l=af->∀i d,(i,d)∈l->Bi (f.getD i .n) (f.getD d .n)=ah
 |[],_,i,d,c=>by cases c
 | (a,p)::r,c,i,d,hm=>by
  simp only[Ee]at c;split at c
  .cases c
  .rename_i g;rcases bY.1 hm with m|hm
   .cases m;exact g
   .exact abA c i d hm
def abB{m j:Y}:∀{l:V bh}{i0 a:Y}{d:bh},l[a]? =ad d->nv d=af->i0+a<j->Nat.testBit m (i0+a)=ah->(i0+a,j)∈Eg m j l i0
 |[],i0,a,d,h,_,_,_=>by simp at h
 |x::r,i0,0,d,h,ht,c,f=>by simp only[mn,ar]at h;subst h;simp only[jd]at c f⊢;simp only[Eg,c,b9,ht,f,CN,Bool.and_self];simp
 |x::r,i0,a+1,d,h,ht,c,f=>by
  have g:=abB (m:=m) (j:=j) (l:=r) (i0:=i0+1) (a:=a) dH ht G (by rw[(G:i0+1+a=i0+(a+1))];exact f);rw[(G:i0+1+a=i0+(a+1))]at g;simp only[Eg];rw[aq G];split
  .exact jT _ g
  .exact g
def abC{opsL:V bh}{i:Y}{v:bh}(A:opsL[i]? =ad v)(d:nv v=af):∀{ml:V Y}{os:V bh}{j0 a:Y}{c:bh}{m:Y},ml[a]? =ad m->os[a]? =ad c->nv c=af->i<j0+a->Nat.testBit m i=ah->(i,j0+a)∈Eh opsL ml os j0
 |[],os,j0,a,c,m,p,_,_,_,_=>by simp at p
 |r::ml,[],j0,a,c,m,_,p,_,_,_=>by simp at p
 |r::ml,x::os,j0,0,c,m,hm,g,ht,f,hb=>by simp only[mn,ar]at hm g;subst hm g;simp only[Eh,ht,b9,jd]at f⊢;refine eh _ ?_;have:=abB (m:=r) (j:=j0) (l:=opsL) (i0:=0) (a:=i) A d G vD;simpa using this
 |r::ml,x::os,j0,a+1,c,m,hm,g,ht,f,hb=>by
  have u:=abC A d (ml:=ml) (os:=os) (j0:=j0+1) (a:=a) (by simpa using hm) (by simpa using g) ht G hb;rw[(G:j0+1+a=j0+(a+1))]at u;simp only[Eh];split
  .exact fZ _ u
  .exact u
end
end Go.El
