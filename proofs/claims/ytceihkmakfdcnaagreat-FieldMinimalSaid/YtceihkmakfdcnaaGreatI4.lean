/- Own work; no condition. -/
import Derived.Test.YtceihkmakfdcnaaGreatI3
set_option linter.all false
set_option maxHeartbeats 16000000
set_option maxRecDepth 100000
noncomputable section
open Array renaming replicate->rR
open Bool renaming true->af,false->ak,rec->AJ
open Go renaming Operand->ff,FuncId->jk,Program->bO,Oper->a8,ResultVar->Au,Value->aT
open Go.El renaming iA->L
open Go.Instr renaming build->Iz,index->NA
open Go.Result renaming andThen->dM
open Go.Sem renaming run_bind->dq
open Go.World renaming cell?->Iq
open Int renaming toNat->ah
open List renaming length->Z,rec->lW,drop->az,take->c
open Nat renaming ble->eL,beq->iP,blt->dK,rec->NJ
open Option renaming some->ae
open _root_ renaming Nat->G,Option->aw,List->E
namespace Go.El
open Go Go.RowKit
def aaV(i:TT)(k d:G)(x f:ff)(l n:G)(a:St):aw (St×G×Ks):=match AH i l n with
 |some (_,g)=>(match a.ev x,a.ev f with
  |some (.c<|.L id off len _),ae p=>(match vI a g.size p,L id a.mem with
   |some (m,cs,is),ae (.box t u b)=>if cs.all lz=af/\m<=len/\off+m*g.size<=Z b then
     ae (⟨jb d (.c<|.I .i64 m) a.sl,jb id (.box t u<|cK b cs off) a.mem,a.nx,a.gd⟩,k+1,(bH [x,f]++cV (id::is),[.s d,.m id]))else none
   |_,_=>none)
  |_,_=>none)
 |none=>none
def aaW(i:TT)(k d:G)(t:G)(x l:ff)(f:St):aw (St×G×Ks):=match f.ev x,f.ev l,L t i with
 |some (.c<|.I _ a),ae (.c<|.I _ b),ae n=>(match n.kind with
  | .sl E=>(match L E i with
   |some g=>if a=b/\0<=a/\0<g.size/\eL (ah a*g.bytes) 16777216=af/\eL (ah a) 16777216=af then
     ae (⟨jb d (.c<|.L k 0 (ah a)<|ae<|ah a) f.sl,(k,.box E 0<|Fq (g.zero.map ZV.qm)<|ah a)::f.mem,f.nx,f.gd⟩,k+1,(bH (Op.makeSlice t x l).operands.toList,[.s d,.m k]))else none
   |none=>none)
  |_=>none)
 |_,_,_=>none
def aaX(i:TT)(k d:G)(t a:G)(b:Array (G×ff))(f:St):aw (St×G×Ks):=match xl i f t a b.toList with
 |some (E,g,cs)=>if 0<g.size/\eL (a*g.size) 16777216=af then
   ae (⟨jb d (.c<|.L k 0 a<|ae a) f.sl,(k,.box E 0 cs)::f.mem,f.nx,f.gd⟩,k+1,(bH (Op.buildSlice t a b).operands.toList,[.s d,.m k]))else none
 |none=>none
def aaY(k d:G)(f:jk)(first a:Array ff)(b:St):aw (St×G×Ks):=match uo b first.toList,uo b a.toList with
 |some fs,ae cs=>ae (⟨jb d (.c<|.X k) b.sl,(k,.dS f fs cs)::b.mem,b.nx,b.gd⟩,k+1,(bH<|first.toList++a.toList,[.s d,.m k]))
 |_,_=>none
def Je(a:TT)(t:G):aw (TI×TI):=match L t a with
 |some b=>(match b.kind with
  | .map kt d=>(match L kt a,L d a with
   |some f,ae g=>ae (f,g)
   |_,_=>none)
  |_=>none)
 |none=>none
def aaZ{b}{t}{i k}(a:Je b t=ae (i,k)):∃d kt f,L t b=ae d/\d.kind= .map kt f/\L kt b=ae i/\L f b=ae k:=by
 unfold Je at a;split at a
 .rename_i d g;split at a
  .rename_i kt f l;split at a
   .rename_i m n p s;cases a;exact⟨d,kt,f,g,l,p,s⟩
   .cases a
  .cases a
 .cases a
def aa0(b:TT)(k d:G)(t:G)(a:St):aw (St×G×Ks):=match Je b t with
 |some (f,g)=>ae (⟨jb d (.c<|.X k) a.sl,(k,.mp f.agg g.agg [])::a.mem,a.nx,a.gd⟩,k+1,([],[.s d,.m k]))
 |none=>none
def Nu(a:IntKind):TK->Bool
 | .int b=>decide<|a=b
 |_=>ak
def aa1(g:TT)(k d:G)(t:G)(x f:ff)(i:Bool)(a:St):aw (St×G×Ks):=match Je g t,a.ev x,a.ev f with
 |some (l,b),ae (.c<|.X id),ae (.c<|.I q m)=>(match Nu q l.kind,L id a.mem with
  |true,ae (.mp ak n xs)=>(match n==b.agg,uq ak q [m] xs with
   |true,ae r=>(match CN i b.agg (r.getD<|b.zero.map ZV.qm) r.isSome with
    |some v=>ae (⟨jb d v a.sl,a.mem,a.nx,a.gd⟩,k+1,(bH [x,f]++cV [id],[.s d]))
    |none=>none)
   |_,_=>none)
  |_,_=>none)
 |_,_,_=>none
def aa2(i:TT)(k:G)(t:G)(x f z:ff)(a:St):aw (St×G×Ks):=match Je i t,a.ev x,a.ev f,a.ev z with
 |some (l,_),ae (.c<|.X id),ae (.c<|.I q m),ae u=>(match Nu q l.kind,L id a.mem,rJ u with
  |true,ae (.mp ak g xs),ae (b,vc)=>(match g==b,uu ak q [m] [.I q m] vc xs with
   |true,ae d=>ae (⟨a.sl,jb id (.mp ak g d) a.mem,a.nx,a.gd⟩,k+1,(bH [x,f,z]++cV [id],[.m id]))
   |_,_=>none)
  |_,_,_=>none)
 |_,_,_,_=>none
def TF(l:Ja)(g:TT)(n k:G)(m:aw G)(op:Op)(a:St):aw (St×G×Ks):=match m with
 |none=>(match op with
  | .mapUpdate t x y z=>aa2 g k t x y z a
  |op=>(match E8 g n k none op a with
   |some (i,p,u)=>if p.b=af then ae (oU ak af i,k+1,u)else none
   |none=>none))
 |some d=>if d<n then(match op with
  | .call ⟨.value A,args,_⟩=>Ty l k d A args.toList a
  | .call ⟨.builtin .append,⟨[x,y]⟩,⟨[t1,t2]⟩⟩=>Tw g n k d x y t1 t2 a
  | .call ⟨.builtin .copy,⟨[x,y]⟩,⟨[t1,t2]⟩⟩=>aaV g k d x y t1 t2 a
  | .makeSlice t x y=>aaW g k d t x y a
  | .buildSlice t len parts=>aaX g k d t len parts a
  | .makeFunc (.func f) first caps=>aaY k d f first caps a
  | .makeMap t none=>aa0 g k d t a
  | .lookup t x y ok=>aa1 g k d t x y ok a
  |op=>(match FA g a op with
   |some (v,p)=>if p.b=af then ae (⟨jb d v a.sl,a.mem,a.nx,a.gd⟩,k+1,(bH op.operands.toList,[.s d]))else none
   |none=>(match E8 g n k (ae d) op a with
    |some (i,p,u)=>if p.b=af then ae (oU af ak i,k+1,u)else none
    |none=>none)))else none
def aa3{a}{k:TK}(b:Nu a k=af):k= .int a:=by cases k<;>simp[Nu]at b;subst b;rfl
def amA(a:St) id b:St.kn ⟨a.sl,jb id b a.mem,a.nx,a.gd⟩=bs a.kn [(.m id,ae<|.b b)]:=by
 funext k;cases k with
 |s t=>simp[St.kn,bs,aE]
 |m j=>
  simp only[St.kn,bs,aE,pQ,Key.m.injEq]
  by_cases e:id=j<;>simp[e]
def aa4{a}{xs:E ff}{b}:∀d∈xs.flatMap (cH a)++fK a b,a.kn d.1=ae d.2:=by
 intro d f;rcases bg.1 f with h|h
 .obtain⟨x,_,h⟩:=iY.1 h;exact eC a x d h
 .exact k9 a b d h
def aa5{d}{xs}{b}:∀a∈dz (xs.flatMap (cH d)++fK d b),a∈bH xs++cV b:=by intro a f;simp only[dz,fL,bg]at f⊢;exact f.elim (λh=> .inl<|eP d _ a h)<|λh=> .inr<|kg d b a h
section
variable{P:bO}{tt:TT}
def CP{b}{op:Op}:∀a∈dz (pI b op),a∈bH op.operands.toList:=λa d=>eP b _ a d
def amB(l:cw P tt=af){rQ:Ja}(uv:∀f vs fm k a7 xo k',rQ f vs fm k=ae (a7,xo,k')->CX P f vs fm k a7 xo k'){n k}{o}(D:o.guard=none){A st'}{k'}{ks}
  (g:TF rQ tt n k o.dst o.op A=ae (st',k',ks)):g6 P n #[o] 0 A st' k k' ks:=by
 have H:(#[o]:Array a8)[0]? =ae o:=rfl
 unfold TF at g
 split at g
 .rename_i C;split at g
  .rename_i t x y z i;unfold aa2 at g;split at g
   .rename_i L M J q m u X N Q hz;split at g
    .rename_i O xs R vc S c hu;split at g
     .rename_i Nv B T;simp only[ar,bQ]at g;obtain⟨rfl,rfl,rfl⟩:=g;obtain⟨ti,kt,vt,U,V,Y,_⟩:=aaZ X;have B:O=R:=by simpa using B
      subst B;have Z:L.kind= .int q:=aa3 S;exact .nD (aaT l H D C i N Q hz hu U V Y Z c T k) (aa4 (xs:=[x,y,z])) (amA A J _) (aa5 (xs:=[x,y,z])) nE
     .simp at g
    .simp at g
   .simp at g
  .split at g
   .rename_i st1 p Nw e;split at g
    .rename_i T;simp only[ar,bQ]at g;obtain⟨rfl,rfl,rfl⟩:=g;exact .Tu (MH l H D (by rw[C];exact e)<|Pr.H9 T)<|aaI _ _ _
    .simp at g
   .simp at g
 .rename_i d C;split at g
  .rename_i s;split at g
   .rename_i cf args kj i;exact amt uv s D C i g
   .rename_i x y t1 t2 i;exact amq l s D C i g
   .rename_i x y t1 t2 i;unfold aaV at g;split at g
    .rename_i E ei hI;have X:=Nn l hI;split at g
     .rename_i J off len cap vy N Q;split at g
      .rename_i m cs is Eb bz qy e c;split at g
       .rename_i K;simp only[ar,bQ]at g;obtain⟨rfl,rfl,rfl⟩:=g;exact .nD (aml H D C s i X N Q c e K.1 K.2.1 K.2.2 k) FJ (aaG A d J _ _) CM nE
       .simp at g
      .simp at g
     .simp at g
    .simp at g
   .rename_i t x y i;unfold aaW at g;split at g
    .rename_i k1 a k2 b ti N Q oP;split at g
     .rename_i E j;split at g
      .rename_i ei pK;split at g
       .rename_i K;obtain⟨rfl,h0,w,Jf,nz⟩:=K;simp only[ar,bQ]at g;obtain⟨rfl,rfl,rfl⟩:=g;have ea:((ah a:G):Int)=a:=xp h0;have:=alY (P:=P) l H D C s i (st:=A) (m:=ah a) (by rw[ea];exact N) (by rw[ea];exact Q) oP j pK w (cQ Jf) (cQ nz) k;rw[i]at this;exact .nD this (sM A _) (FG A d k _ _) CP nE
       .simp at g
      .simp at g
     .simp at g
    .simp at g
   .rename_i t len parts i;unfold aaX at g;split at g
    .rename_i E ei cs F;split at g
     .rename_i K;simp only[ar,bQ]at g;obtain⟨rfl,rfl,rfl⟩:=g;have:=al0 (P:=P) l H D C s i K.1 (cQ K.2) F k;rw[i]at this;exact .nD this (sM A _) (FG A d k _ _) CP nE
     .simp at g
    .simp at g
   .rename_i f first caps i
    unfold aaY at g;split at g
    .rename_i fs cs hf K;simp only[ar,bQ]at g;obtain⟨rfl,rfl,rfl⟩:=g;refine .nD (aax H D C s i hf K k) ?_ (FG A d k _ _) (λI j=>eP A _ I j) nE;intro kx W;let ⟨x,_,g⟩:=iY.1 W;exact eC A x kx g
    .simp at g
   .rename_i t i;unfold aa0 at g;split at g
    .rename_i L M X;simp only[ar,bQ]at g;obtain⟨rfl,rfl,rfl⟩:=g;exact .nD (aaR H D C s i _ _ k) (λkx W=>by cases W) (FG A d k _ _) (λI j=>by cases j) nE
    .simp at g
   .rename_i t x y ok i;unfold aa1 at g;split at g
    .rename_i L M J q m X N Q;split at g
     .rename_i O xs S c;split at g
      .rename_i a7 B hr;split at g
       .rename_i v F;simp only[ar,bQ]at g;obtain⟨rfl,rfl,rfl⟩:=g;obtain⟨ti,kt,vt,U,V,Y,e4⟩:=aaZ X;have B:O=M.agg:=by simpa using B
        subst B;exact .nD (aaS l H D C s i N Q U V Y (aa3 S) e4 c hr F k) (aa4 (xs:=[x,y])) (Tv A d _) (aa5 (xs:=[x,y])) nE
       .simp at g
      .simp at g
     .simp at g
    .simp at g
   .split at g
    .rename_i v p F;split at g
     .rename_i T;simp only[ar,bQ]at g;obtain⟨rfl,rfl,rfl⟩:=g;exact .nD (aao l H D C s F (Pr.H9 T) k) (sM A _) (Tv A d _) CP nE
     .simp at g
    .split at g
     .rename_i st1 p Nw e;split at g
      .rename_i T;simp only[ar,bQ]at g;obtain⟨rfl,rfl,rfl⟩:=g;exact .Tu (MH l H D (by rw[C];exact e)<|Pr.H9 T)<|aaI _ _ _
      .simp at g
     .simp at g
  .simp at g
end
section
variable{P:bO}{tt:TT}
structure Steps(P:bO)(n:G)(g:Array a8)(i:G)(os:E a8)(st l:St)(k s:G)(ds:E (E (Key×Info)×E (Key×aw Info)))(f:E G):Prop where
 len:ds.length=os.length
 aa6:f.length=os.length+1
 first:f[0]? =ae k
 last:f[os.length]? =ae s
 mono:∀d a b,f[d]? =ae a->f[d+1]? =ae b->a<=b
 step:∀d(h:d<ds.length) a b,f[d]? =ae a->f[d+1]? =ae b->tU P n g (i+d) ds[d].1 ds[d].2 (λm=>a<=m/\m<b)
 reads:∀d(h:d<ds.length),∀p∈ds[d].1,qq st.kn (ds.take d) p.1=ae p.2
 fin:l.kn=qq st.kn ds
end
inductive Ex where
 |dD
 |ig (a:G)
 |ret
def Ex.Jg:Ex->Exit
 | .dD=> .normal
 | .ig id=> .exit id
 | .ret=> .ret
def aa7(a:a8):Bool:=match a.op with
 | .defer _=>ak
 |_=>af
def m5:Code->Bool
 | .region _ ops _=>ops.toList.all aa7
 | .seq x a=>m5 x&&m5 a
 | .cond _ x a=>m5 x&&m5 a
 | .block _ x=>m5 x
 | .loop x=>m5 x
 | .skip=>af
 | .exit _=>af
 | .ret=>af
 |_=>ak
def m6(a:aw G)(b:Code):Prop:=a=none\/m5 b=af
def m6.seq{b}{x d}(a:m6 b (.seq x d)):m6 b x/\m6 b d:=by
 rcases a with a|a
 .exact⟨.inl a,.inl a⟩
 .simp only[m5,cG]at a;exact⟨.inr a.1,.inr a.2⟩
def m6.cond{b}{f}{x d}(a:m6 b (.cond f x d)):m6 b x/\m6 b d:=by
 rcases a with a|a
 .exact⟨.inl a,.inl a⟩
 .simp only[m5,cG]at a;exact⟨.inr a.1,.inr a.2⟩
def m6.block{a}{b}{x}(d:m6 a (.block b x)):m6 a x:=d
def m6.loop{a}{x}(b:m6 a (.loop x)):m6 a x:=b
def m6.region{f}{k}{b}{d}(a:m6 f (.region k b d)):wX f b:=by
 intro i o g;rcases a with a|a
 .exact .inl a
 .refine .inr<|λc l=>?_;simp only[m5,nw]at a;have:=a o (by rw[<-Fa]at g;exact Nx g);simp[aa7,l]at this
def Jh(P:bO)(n:G)(d:Code)(i:St)(k:G)(l:Ex)(b:St)(f:G):Prop:=
 k<=f/\∀F:dB,F.n=n->m6 F.rd d->∀g W a,aM F (·<k) i.kn g W a->d.wpIn (dC F.rd) 0 P (λm p s=>m=l.Jg/\∃t,aM F (·<f) b.kn t s p) a W
section
variable{P:bO}{tt:TT}
def aa8{n}{d:G->Prop}{k}{g}{W}{a}(l:aM n d k.kn g W a){x}{v}(hv:qt tt k x=ae v):∀f∈v.al,d f:=by
 cases x with
 |tmp t=>
  simp only[qt]at hv
  exact λf i=>l.al (.s t) (.v v) rI f i
 |cell b t=>
  simp only[qt]at hv
  split at hv
  .rename_i f p D;split at hv
   .rename_i E u z sz H A B;intro j C;exact l.al (.m f) (.b<|.box E u z) (by simp[St.kn,A]) j<|Ah hv j C
   .simp at hv
  .simp at hv
def aa9{n:dB}{d:G->Prop}{l:St}{g:Gh}{W:World}{a:Act}(m:aM n d l.kn g W a):∀(p:E Au)(k:E (Bool×E C)),qu tt l p=ae k->∀i∈dX k,d i
 |[],k,f,i,b=>by simp only[qu,ar]at f;subst f;cases b
 |x::xs,k,f,i,b=>by
  simp only[qu]at f;split at f
  .rename_i v t;split at f
   .rename_i s u z A;simp only[ar]at f;subst f;simp only[dX,bg]at b;rcases b with b|b
    .rw[Ni z]at b;exact aa8 (tt:=tt) m t i b
    .exact aa9 m xs u A i b
   .simp at f
  .simp at f
def aa'{p}{b:G->Prop}{k}{g}{W}{a}(l:aM p b k.kn g W a){m}{v}(d:mA tt k m=ae v):∀n∈v.al,b n:=by
 match m,d with
 |[],d=>
  simp only[mA,qu,xg,ar]at d
  subst d
  intro n f;cases f
 |[x],d=>exact aa8 (tt:=tt) l d
 |x::y::r,d=>
  simp only[mA,bS]at d
  obtain⟨s,i,rfl⟩:=d
  exact aa9 (tt:=tt) l _ s i
def amD(cC:cw P tt=af){f}{d}{dT}(hf:P.funcs[f]? =ae d)(hb:d.body=ae dT)(qv:(d.name != "runtime.NumGoroutine")=af){vs}(hle:Z vs<=d.ntmps){fm}{k}{cJ:Ex}{N}{k'}(p:cJ= .dD\/cJ= .ret)
  (Q:Jh P d.ntmps dT ⟨dG 0 vs,fm,0,[]⟩ k cJ N k') {a7}(hr:mA tt N d.results.toList=ae a7) {T}(D:∀z b,L z T=ae b->L z N.mem=ae b):CX P f vs fm k a7 T k':=by
 refine⟨yv,Q.1,?_⟩
 intro F g W H hn lV A
 refine calls_of_wp hf hb ?_
 have O:(H.toArray++rR (d.ntmps-H.toArray.size) undef).size=d.ntmps:=b6
 have h0:aM {F with n:=d.ntmps,rd:=none} (·<k) (St.kn ⟨dG 0 vs,fm,0,[]⟩) g W {tmps:=H.toArray++rR (d.ntmps-H.toArray.size) undef,defers:=[]}:=by
  refine⟨O,A.defers,?_,A.cE,A.inj,A.al,A.dI,A.sub,A.below,A.le,A.fresh,A.fB⟩;intro t v R;have S:=A.dH t v R;have jw:t<Z H:=by
   have X:L t (dG 0 vs)=ae v:=by simp only[St.kn,bS]at R;let ⟨x,a,p⟩:=R;cases p;exact a
   have o:∀(l:E AV)(i:G)(v:AV),L t (dG i l)=ae v->t<i+Z l:=by
    intro l;induction l with
    |nil=>intro i v Q;simp[dG,L]at Q
    |cons x l ih=>
     intro i v Q
     simp only[dG,L]at Q
     split at Q
     .simp;omega
     .have:=ih (i+1) v Q;simp;omega
   have:=o vs 0 v X;omega
  have:(H.toArray++rR (d.ntmps-H.toArray.size) undef).getD t undef=H.toArray.getD t undef:=by rw[lR,lR,ui yw]
  show bf g v ((H.toArray++rR (d.ntmps-H.toArray.size) undef).getD t undef);rw[this];exact S
 refine(Zp (r:=none) J).1<|wpIn_mono (Q.2 {F with n:=d.ntmps,rd:=none} rfl (.inl J) g W _ h0) ?_
 rintro e' a' W' ⟨rfl,g',B⟩
 let ⟨u,hu,q⟩:=Av (P:=P) (tt:=tt) (st:=N) cC B (fn:=d) (rs:=d.results.toList) ax hr
 have K:∃v U,Ending.returned u= .returned v/\aM {F with n:=1} (·<k') (St.kn ⟨[(0,a7)],T,0,[]⟩) U W' (nC [v]):=by
  have V:=aa' (tt:=tt) B hr;refine⟨u,g',J,⟨J,A.defers,?_,?_,?_,?_,?_,B.sub,B.below,B.le,B.fresh,B.fB⟩⟩
  .intro t x a;simp only[St.kn,L,bS]at a;let ⟨y,C,p⟩:=a;cases p;split at C
   .rename_i cJ;subst cJ;cases C;simpa[nC]using q
   .cases C
  .intro z b hb;simp only[St.kn,bS]at hb;let ⟨x,a,p⟩:=hb;cases p;exact B.cE z b (by simp[St.kn,D z b a])
  .intro z w b b' kk hb I S h2;simp only[St.kn,bS]at hb I;let ⟨x,a,p⟩:=hb;let ⟨x',Y,I5⟩:=I;cases p;cases I5;exact B.inj z w b b' kk (by simp[St.kn,D z b a]) (by simp[St.kn,D w b' Y]) S h2
  .intro o x a z M;cases o with
   |s t=>
    simp only[St.kn,L,bS]at a
    let ⟨y,C,p⟩:=a
    subst p
    split at C
    .cases C;exact V z M
    .cases C
   |m j=>
    simp only[St.kn,bS]at a
    let ⟨y,C,p⟩:=a
    subst p
    exact B.al (.m j) (.b y) (by simp[St.kn,D j y C]) z M
  .intro z x a;simp only[St.kn,bS]at a;let ⟨y,C,p⟩:=a;exact B.dI z (.b y) (by simp[St.kn,D z y C])
 rcases p with rfl|rfl
 .exact⟨B.defers.trans A.defers.symm,u,hu,K⟩
 .exact⟨B.defers.trans A.defers.symm,u,hu,K⟩
end
def Ny:AV->aw Bool
 | .c (.V<|.slice none 0 0)=>ae af
 | .c (.L _ _ _ _)=>ae ak
 | .c (.S _<|_::_)=>ae ak
 |_=>none
def TG(a:TT)(t:G):Bool:=match L t a with
 |some b=>(match b.kind with| .sl _=>af|_=>ak)
 |none=>ak
def Ji(s:ByteArray)(i:Int):aw Int:=match s[i.toNat]? with
 |some b=>ae b.toNat
 |none=>none
def TH(a:TT)(op:BinOp)(t:G)(v d:AV):aw AV:=match d with
 | .c (.V<|.slice none 0 0)=>(match TG a t,Ny v with
  |true,ae b=>(match op with
   | .eql=>ae<|.c<|.B b
   | .neq=>ae<|.c<|.B<|!b
   |_=>none)
  |_,_=>none)
 |_=>none
def xq(d:TT)(k:St):Op->aw (AV×Pr)
 | .build t parts=>(match L t d with
  |some f=>(match f.kind with
   | .arr len l=>(match L l d with
    |some m=>(match Cp (xk m.size 0 len) k (f.zero.map ZV.qm) parts.toList with
     |some cs=>ae (.a cs,.t)
     |none=>none)
    |none=>none)
   |_=>none)
  |none=>none)
 | .index t x i=>(match k.ev x,k.ev i with
  |some (.a cs),ae (.c<|.I _ g)=>(match L t d with
   |some f=>(match f.kind with
    | .arr len l=>(match pJ d l with
     |some (sz,n)=>(match oN cs (ah g*sz) sz n with
      |some u=>ae (u,.and (.le 0 g)<|.lt g len)
      |none=>none)
     |none=>none)
    |_=>none)
   |none=>none)
  |some (.c<|.V<|.string s),ae (.c<|.I _ g)=>(match L t d with
   |some f=>(match f.kind,Ji s g with
    | .str,ae b=>ae (.c<|.I .u8 b,.le 0 g)
    |_,_=>none)
   |none=>none)
  |_,_=>none)
 | .binOp op t x p _=>(match k.ev x,k.ev p with
  |some v,ae z=>(match TH d op t v z with
   |some u=>ae (u,.t)
   |none=>none)
  |_,_=>none)
 |_=>none
section
variable{P:bO}{tt:TT}{g:Gh}{W:World}
def amE{v}{b}(d:Ny v=ae b){u}(i:bf g v u):∃a l k,u= .slice a l k/\a.isNone=b:=by
 unfold Ny at d;split at d
 .cases d;have m:u= .slice none 0 0:=i;exact⟨none,0,0,m,J⟩
 .rename_i t n s f;cases d;cases f with
  |some k=>obtain⟨b,_,rfl⟩:=i;exact⟨_,_,_,J,J⟩
  |none=>obtain⟨_,b,k,_,rfl,_⟩:=i;exact⟨_,_,_,J,J⟩
 .rename_i T x xs;cases d;obtain⟨a,f,rfl,_,_,p⟩:=i;rcases p with p|⟨b,n,rfl,_⟩
  .cases p
  .exact⟨_,_,_,J,J⟩
 .cases d
def amF{t b}(d:P.underlying t=ae (.slice b)) a l f:(Op.equal t (.slice a l f)<|.slice none 0 0).run P W= .ok a.isNone W:=by rw[Op.equal,show Op.maxDepth=9999+1 from J,Op.equalIn];cases a<;>simp[run_underlying d]
def amG(D:cw P tt=af){gP}{d:G->Prop}{σ}{g}{W}{a}(N:aM gP d σ g W a){H}{n:BinOp}{t:TypeId}{p z}{ty}(bW:H.op= .binOp n t p z ty){v:AV}{b:Bool}(f:TG tt t=af)(hn:Ny v=ae b){x:AV}
  (he:(n= .eql/\x=AV.c (.B b))\/(n= .neq/\x=AV.c (.B<|!b))) (h1:bf g v (a.eval p)/\∀s∈v.al,d s) (u:a.eval z= .slice none 0 0):
  (∀s∈x.al,d s)/\∃v,(execOp a.eval H).run P W= .ok (.value v) W/\bf g x v:=by
 let ⟨X,l,c,A,Q⟩:=amE hn h1.1
 have i:∃e,P.underlying t=ae (.slice e):=by
  unfold TG at f;split at f
  .rename_i j K;split at f
   .rename_i e h;have T:=(fb D K).kind;rw[h]at T;exact⟨e,T⟩
   .cases f
  .cases f
 let ⟨e,i⟩:=i
 have k:execOp a.eval H=(do pure (.value<|<-(do eqGuard n t p z (a.eval p) (a.eval z);binOp n t (a.eval p) (a.eval z):Go.Sem aT))):=w8
 have heq:=amF (P:=P) (W:=W) i X l c
 rcases he with⟨rfl,rfl⟩|⟨rfl,rfl⟩
 .refine⟨λs m=>by simp[AV.al,C.al]at m,.bool b,?_,J⟩;rw[k,A,u];simp[eqGuard,binOp,heq,dM,Q]
 .refine⟨λs m=>by simp[AV.al,C.al]at m,.bool (!b),?_,J⟩;rw[k,A,u];simp[eqGuard,binOp,heq,dM,Q]
def TL(H:cw P tt=af){ops}{i}{aF:a8}{d:G}(ho:ops[i]? =ae aF)(hg:aF.guard=none)(hd:aF.dst=ae d){n}(dn:d<n)
 {st}{x}{p}(f:xq tt st aF.op=ae (x,p)) (hp:p) new:iJ P n ops i (pI st aF.op) [(.s d,ae<|.v x)] new:=by
 refine tX ho hg hd dn _ x new ?_
 intro F M σ g W a K O
 have R:∀y∈aF.op.operands,∀kx∈cH st y,σ kx.1=ae kx.2:=by intro y Q kx S;exact O kx<|iY.2 ⟨y,by simpa using Q,S⟩
 have D:∀y∈aF.op.operands,∀u,st.ev y=ae u->bf g u (a.eval y)/\∀id∈u.al,M id:=by intro y Q u U;exact⟨dJ K st y u U<|R y Q,sH K st y u U<|R y Q⟩
 generalize bW:aF.op=op at f D R O
 unfold xq at f
 split at f
 .rename_i t l;split at f
  .rename_i ti T;split at f
   .rename_i X E hk;split at f
    .rename_i ei pK;split at f
     .rename_i cs SN;cases f;have L:=(fb H T).kind;rw[hk]at L;have U:P.underlying t=ae (.array X E):=L;let ⟨inf,N,gY,_,z,hz,yq⟩:=(fb H T).info;let ⟨ie,hie,TM,_⟩:=(fb H pK).info;have hzr:a4 g (ti.zero.map ZV.qm) (ti.zero.map ZV.fC):=Ao g ti.zero;let ⟨us,V,e,hlen,amJ⟩:=Ix K st (xk ei.size 0 X) (λi=>ae (i*ei.size,ei.size)) (λi y Q=>by have:=M2 ei.size X 0 i y Q;rw[this,fc]) l.toList _ cs _ SN hzr (λq hq kx S=>O kx<|iY.2 ⟨q.2,by simp only[Op.operands];simp only[kf];exact⟨q,hq,J⟩,S⟩) (by rw[MF];intro _ h;cases h);refine⟨amJ,.agg us.toArray,?_,us,J,e⟩;have FM:(zeroValue t).run P W= .ok z W:=by simp[zeroValue,typeInfo,N,hz]
      have amK:z.cells=(ti.zero.map ZV.fC).toArray:=E6;have m:execOp a.eval aF=(do pure (.value<|<-Iz t (l.map λ(i,x)=>(i,a.eval x)))):=w8;have Nz:(l.map λ(i,x)=>(i,a.eval x)).toList=l.toList.map λp=>(p.1,a.eval p.2):=ax
      have hb:(Iz t<|l.map λ(i,x)=>(i,a.eval x)).run P W= .ok (.agg us.toArray) W:=by unfold Iz;rw[dq,FM];simp only[dM];rw[dq,run_underlying U];simp only[dM];rw[dq,run_sizeOf hie];simp only[dM,Nz,amK,TM,V];rfl
      rw[m,dq,hb];rfl
     .cases f
    .cases f
   .cases f
  .cases f
 .rename_i t y j;have m:execOp a.eval aF=(do pure (.value<|<-NA t (a.eval y) (a.eval j))):=w8;split at f
  .rename_i cs k jj Q hj;split at f
   .rename_i ti T;split at f
    .rename_i X E hk;split at f
     .rename_i sz ag E5;split at f
      .rename_i u U;cases f;obtain⟨Y,nz⟩:0<=jj/\jj<(X:Int):=hp;have L:=(fb H T).kind;rw[hk]at L;have r:P.underlying t=ae (.array X E):=L;let ⟨vs,m7,e⟩:=(D y iu _ Q).1;have Z:a.eval j= .int k jj:=(D j iu _ hj).1;let ⟨hag,⟨inf,N,gY⟩,_⟩:=Im H E5;let ⟨v,hv,Ns⟩:=Zx (P:=P) e U hag N gY W;refine⟨λid bc=>(D y iu _ Q).2 id<|Ah U id bc,v,?_,Ns⟩;have I:(NA t (a.eval y)<|a.eval j).run P W= .ok v W:=by rw[m7,Z];unfold NA;simp only[asIntOf,dq,Sem.run_pure,dM,run_underlying r,Y,nz,and_self,cr,run_sizeOf N,gY];exact hv
       rw[m,dq,I];rfl
      .cases f
     .cases f
    .cases f
   .cases f
  .rename_i s k jj Q hj;split at f
   .rename_i ti T;split at f
    .rename_i b hk hb;cases f;have Y:0<=jj:=hp;have L:=(fb H T).kind;rw[hk]at L;have r:P.underlying t=ae .string:=L;have hyv:a.eval y= .string s:=(D y iu _ Q).1;have Z:a.eval j= .int k jj:=(D j iu _ hj).1;refine⟨λid bc=>by simp[AV.al,C.al]at bc,.int .u8 b,?_,J⟩;have I:(NA t (a.eval y)<|a.eval j).run P W= .ok (.int .u8 b) W:=by
      rw[hyv,Z];unfold Ji at hb;unfold NA;simp only[asIntOf,dq,Sem.run_pure,dM,run_underlying r,Y,cr];split at hb
      .rename_i bb Jj;cases hb;rw[Jj];rfl
      .cases hb
     rw[m,dq,I];rfl
    .cases f
   .cases f
  .cases f
 .rename_i bo t y z ty;split at f
  .rename_i v w Q hz;split at f
   .rename_i u0 A;cases f;unfold TH at A;split at A
    .split at A
     .rename_i b hsk hn;have amO:(bo= .eql/\x=AV.c (.B b))\/(bo= .neq/\x=AV.c (.B<|!b)):=by
       split at A
       .cases A;exact .inl ⟨J,J⟩
       .cases A;exact .inr ⟨J,J⟩
       .cases A
      exact amG H K bW hsk hn amO (D y iu _ Q) (D z iu _ hz).1
     .cases A
    .cases A
   .cases f
  .cases f
 .cases f
end
inductive D4 where
 |a|b|c|d
inductive T4(f:Type) where
 |e
 |lf (v:f)
 |nd (a b c d:T4 f)
section
variable{α:Type}
def km(p:E D4):T4 α->aw α:=lW (motive:=λ_=>T4 α->aw α)
 (λt=>T4.rec (motive:=λ_=>aw α) none (λv=>ae v) (λ_ _ _ _ _ _ _ _=>none) t)
 (λx _ f t=>T4.rec (motive:=λ_=>aw α) none (λ_=>none) (λa b c d _ _ _ _=>D4.rec (motive:=λ_=>aw α) (f a) (f b) (f c) (f d) x) t) p
def kO(p:E D4)(v:α):T4 α->T4 α:=lW (motive:=λ_=>T4 α->T4 α)
 (λ_=> .lf v)
 (λx _ f t=>T4.rec (motive:=λ_=>T4 α)
  (D4.rec (motive:=λ_=>T4 α) (.nd (f .e) .e .e .e) (.nd .e (f .e) .e .e) (.nd .e .e (f .e) .e) (.nd .e .e .e<|f .e) x)
  (λ_=>D4.rec (motive:=λ_=>T4 α) (.nd (f .e) .e .e .e) (.nd .e (f .e) .e .e) (.nd .e .e (f .e) .e) (.nd .e .e .e<|f .e) x)
  (λa b c d _ _ _ _=>D4.rec (motive:=λ_=>T4 α) (.nd (f a) b c d) (.nd a (f b) c d) (.nd a b (f c) d) (.nd a b c<|f d) x) t) p
def FO(p:E D4):T4 α->T4 α:=lW (motive:=λ_=>T4 α->T4 α)
 (λ_=> .e)
 (λx _ f t=>T4.rec (motive:=λ_=>T4 α) .e (λ_=> .e)
  (λa b c d _ _ _ _=>D4.rec (motive:=λ_=>T4 α) (.nd (f a) b c d) (.nd a (f b) c d) (.nd a b (f c) d) (.nd a b c<|f d) x) t) p
def AI:∀p:E D4,km p (.e:T4 α)=none
 |[]=>rfl
 |_::_=>rfl
def Jk(v:α):∀(p:E D4)(t:T4 α),km p (kO p v t)=ae v
 |[],_=>rfl
 |x::p,t=>by cases t<;>cases x<;>exact Jk v p _
def FP(v:α):∀(p a:E D4)(t:T4 α),Z p=Z a->p≠a->km a (kO p v t)=km a t
 |[],[],_,_,b=>aJ J b
 |[],_::_,_,b,_=>by simp at b
 |_::_,[],_,b,_=>by simp at b
 |x::p,i::a,t,hl,b=>by
  have d:Z p=Z a:=vj;by_cases f:x=i
  .subst f;have g:p≠a:=λe=>b (by rw[e])
   cases t<;>cases x<;>first|exact FP v p a _ d g|exact(FP v p a _ d g).trans<|AI a
  .cases t<;>cases x<;>cases i<;>first|rfl|exact AI a|exact aJ rfl f
def TN:∀(p:E D4)(t:T4 α),km p (FO p t)=none
 |[],_=>rfl
 |x::p,t=>by cases t<;>cases x<;>first|rfl|exact TN p _
def TO:∀(p a:E D4)(t:T4 α),Z p=Z a->p≠a->km a (FO p t)=km a t
 |[],[],_,_,b=>aJ J b
 |[],_::_,_,b,_=>by simp at b
 |_::_,[],_,b,_=>by simp at b
 |x::p,i::a,t,hl,b=>by
  have f:Z p=Z a:=vj;by_cases d:x=i
  .subst d;have g:p≠a:=λe=>b (by rw[e])
   cases t<;>cases x<;>first|rfl|exact TO p a _ f g
  .cases t<;>cases x<;>cases i<;>first|rfl|exact aJ rfl d
end
def oW:G->D4
 |0=> .a
 |1=> .b
 |2=> .c
 |_=> .d
def db:G->G->E D4
 |0,_=>[]
 |n+1,t=>oW (t/4^n)::db n (t%4^n)
def TP:∀n t,(db n t).length=n
 |0,_=>rfl
 |n+1,t=>by simp[db,TP n]
def NB{a b}(i:a<4)(k:b<4)(d:oW a=oW b):a=b:=by have f:a=0\/a=1\/a=2\/a=3:=Y;have g:b=0\/b=1\/b=2\/b=3:=Y;rcases f with rfl|rfl|rfl|rfl<;>rcases g with rfl|rfl|rfl|rfl<;>first|rfl| (simp[oW]at d)
def CQ:∀(n:G){a b:G},a<4^n->b<4^n->db n a=db n b->a=b
 |0,a,b,d,f,_=>by simp at d f;omega
 |n+1,a,b,d,f,g=>by simp only[db,Ih]at g;have i:0<4^n:=ko o;have k:a/4^n=b/4^n:=NB (Ax<|by rw[gK]at d;omega) (Ax<|by rw[gK]at f;omega) g.1;have l:a%4^n=b%4^n:=CQ n (gJ _ i) (gJ _ i) g.2;rw[<-sU a (4^n),<-sU b (4^n),k,l]
abbrev Tr:=T4 AV
abbrev Mem:=E<|G×aC
section
variable{α:Type}
def nF(a:G)(l:E (G×α)):aw α:=lW (motive:=λ_=>aw α) none
 (λh _ b=>Prod.rec (motive:=λ_=>aw α) (λk x=>AJ (motive:=λ_=>aw α) b (ae x)<|iP k a) h) l
def Jl(a:G)(v:α)(l:E (G×α)):E (G×α):=lW (motive:=λ_=>E<|G×α) [(a,v)]
 (λh r b=>Prod.rec (motive:=λ_=>E<|G×α) (λk x=>AJ (motive:=λ_=>E<|G×α) ((k,x)::b) ((a,v)::r)<|iP k a) h) l
def yK(a:G):∀l:E (G×α),nF a l=L a l
 |[]=>rfl
 | (k,x)::b=>by
  have d:=yK a b;show AJ (motive:=λ_=>aw α) (nF a b) (ae x) (iP k a)=_;simp only[L];by_cases h:k=a
  .subst h;rw[CR,q J]
  .have:iP k a=ak:=by
    cases f:iP k a
    .rfl
    .exact aJ (lX f) h
   rw[this,j h];exact d
def abb(a:G)(v:α):∀l:E (G×α),Jl a v l=jb a v l
 |[]=>rfl
 | (k,x)::b=>by
  have d:=abb a v b;show AJ (motive:=λ_=>E<|G×α) ((k,x)::Jl a v b) ((a,v)::b) (iP k a)=_;simp only[jb];by_cases h:k=a
  .subst h;rw[CR,q J]
  .have:iP k a=ak:=by
    cases f:iP k a
    .rfl
    .exact aJ (lX f) h
   rw[this,j h];simp only[d]
end
def dH(dep n:G)(t:Tr):E (G×AV):=(List.range n).filterMap λj=>(km (db dep j) t).map λv=>(j,v)
def bu(dep n:G)(t:Tr)(m:Mem):St:=⟨dH dep n t,m,0,[]⟩
def abd{d:Type}(g:G->aw d)(t:G):∀l:E G,L t (l.filterMap λa=>(g a).map λv=>(a,v))=if t∈l then g t else none
 |[]=>rfl
 |a::l=>by
  have b:=abd g t l;simp only[List.filterMap_cons];cases hg:g a with
  |none=>
   simp only[Option.map_none,b,b9]
   by_cases h:t=a
   .subst h;simp[hg]
   .simp[h]
  |some v=>
   simp only[xg,L,b,b9]
   by_cases h:a=t
   .subst h;simp[hg]
   .have:t≠a:=λe=>h e.symm
    simp[h,this]
def uw dep n t a:L a (dH dep n t)=if a<n then km (db dep a) t else none:=by unfold dH;rw[abd (λa=>km (db dep a) t) a];simp only[ru]
def FQ(dep n:G)(t:Tr)(m:Mem):(bu dep n t m).kn=λ| .s a=>((if a<n then km (db dep a) t else none)).map .v| .m id=>(L id m).map .b:=by
 funext k;cases k with
 |s a=>simp only[bu,St.kn,uw]
 |m id=>rfl
def abe dep n(t:Tr) d a v(g:n<=4^dep)(f:d<n):L a (dH dep n<|kO (db dep d) v t)=if d=a then ae v else L a (dH dep n t):=by
 rw[uw,uw];by_cases h:d=a
 .subst h;simp[f,Jk]
 .rw[j h];by_cases b:a<n
  .rw[q b,q b,FP _ _ _ _ FR<|λe=>h<|CQ dep Y Y e]
  .rw[j b,j b]
def amP dep n(t:Tr) d a(g:n<=4^dep)(f:d<n):L a (dH dep n<|FO (db dep d) t)=if d=a then none else L a (dH dep n t):=by
 rw[uw,uw];by_cases h:d=a
 .subst h;simp[f,TN]
 .rw[j h];by_cases b:a<n
  .rw[q b,q b,TO _ _ _ FR<|λe=>h<|CQ dep Y Y e]
  .rw[j b,j b]
def FT dep n(t:Tr)(m:Mem) d v(a:n<=4^dep)(b:d<n):(bu dep n (kO (db dep d) v t) m).kn=bs (bu dep n t m).kn [(.s d,ae<|.v v)]:=by
 funext k;cases k with
 |s j=>
  simp only[bu,St.kn,bs,aE,Key.s.injEq,abe dep n t d j v a b]
  split<;>simp
 |m id=>simp[bu,St.kn,bs,aE]
def amQ dep n(t:Tr)(m:Mem) d(a:n<=4^dep)(b:d<n):(bu dep n (FO (db dep d) t) m).kn=bs (bu dep n t m).kn [(.s d,none)]:=by
 funext k;cases k with
 |s j=>
  simp only[bu,St.kn,bs,aE,Key.s.injEq,amP dep n t d j a b]
  split<;>simp
 |m id=>simp[bu,St.kn,bs,aE]
def abf dep n t(m f:Mem) wr(g:∀a,(L a f).map Info.b=bs (bu dep n t m).kn wr (.m a))(i:∀d,aE wr (.s d)=none):(bu dep n t f).kn=bs (bu dep n t m).kn wr:=by
 funext k;cases k with
 |s d=>simp[bu,St.kn,bs,i d]
 |m a=>exact g a
def NC:Int->Int->Bool
 | .ofNat m,.ofNat n=>eL m n
 | .negSucc _,.ofNat _=>af
 | .negSucc m,.negSucc n=>eL n m
 | .ofNat _,.negSucc _=>ak
def TQ:Int->Int->Bool
 | .ofNat m,.ofNat n=>iP m n
 | .negSucc m,.negSucc n=>iP m n
 |_,_=>ak
def abg a b:NC a b=decide (a<=b):=by cases a<;>cases b<;>simp only[NC]<;>rw[Bool.eq_iff_iff]<;>simp[Nat.ble_eq]<;>omega
def amR a b:TQ a b=decide (a=b):=by cases a<;>cases b<;>simp only[TQ]<;>rw[Bool.eq_iff_iff]<;>simp<;>omega
def ND:Int->Bool
 | .ofNat m=>dK m 9223372036854775808
 | .negSucc m=>dK m 9223372036854775808
def amS{n}(a:ND n=af):gy n:=by
 cases n with
 |ofNat m=>simp only[ND,ux]at a;unfold gy;simp only[Int.ofNat_eq_natCast];omega
 |negSucc m=>simp only[ND,ux]at a;unfold gy;omega
def vP:Pr->Bool
 | .t=>af
 | .i64 n=>ND n
 | .Cb b=>Bool.not<|TQ b 0
 | .le a b=>NC a b
 | .lt a b=>Bool.not<|NC b a
 | .Cc a b=>dK a b
 | .vf a b=>a==b
 | .and p d=>match vP p with
  |true=>vP d
  |false=>ak
def FU:∀{p:Pr},vP p=af->p.h
 | .t,_=>trivial
 | .i64 _,d=>amS d
 | .Cb b,d=>by simp only[vP,amR]at d;simpa[Pr.h]using d
 | .le a b,d=>by simp only[vP,abg]at d;simpa[Pr.h]using d
 | .lt a b,d=>by simp only[vP,abg]at d;simpa[Pr.h]using d
 | .Cc a b,d=>by simpa[vP,Pr.h,ux]using d
 | .vf a b,d=>by simpa[vP,Pr.h]using d
 | .and p g,d=>by
  simp only[vP]at d;split at d
  .rename_i f;exact⟨FU f,FU d⟩
  .cases d
def FV(k:G):C->Bool
 | .P id _=>dK id k
 | .X id=>dK id k
 | .Y id _ _ _=>dK id k
 | .L id _ _ _=>dK id k
 | .W id _ _=>dK id k
 |_=>af
def abh{k}{a}(b:FV k a=af):∀d∈a.al,d<k:=by cases a<;>simp only[FV,C.al,ux]at b⊢<;>simp<;>exact b
def vQ(k:G)(l:E C):Bool:=lW (motive:=λ_=>Bool) af (λc _ a=>AJ (motive:=λ_=>Bool) ak a<|FV k c) l
def AK{k:G}:∀{l:E C},vQ k l=af->∀b∈b8 l,b<k
 |[],_=>by simp[b8]
 |f::g,i=>by
  have d:AJ (motive:=λ_=>Bool) ak (vQ k g) (FV k f)=af:=i;cases hc:FV k f with
  |false=>rw[hc]at d;cases d
  |true=>
   rw[hc]at d
   intro b a
   simp only[b8,bg]at a
   rcases a with a|a
   .exact abh hc b a
   .exact AK d b a
def Jm(k:G)(l:E (Bool×E C)):Bool:=lW (motive:=λ_=>Bool) af (λc _ a=>AJ (motive:=λ_=>Bool) ak a<|vQ k c.2) l
def NF{k:G}:∀{l:E (Bool×E C)},Jm k l=af->∀b∈dX l,b<k
 |[],_=>by simp[dX]
 |f::g,i=>by
  have d:AJ (motive:=λ_=>Bool) ak (Jm k g) (vQ k f.2)=af:=i;cases hc:vQ k f.2 with
  |false=>rw[hc]at d;cases d
  |true=>
   rw[hc]at d
   intro b a
   simp only[dX,bg]at a
   rcases a with a|a
   .exact AK hc b a
   .exact NF d b a
def abi(k:G):AV->Bool
 | .c x=>FV k x
 | .a cs=>vQ k cs
 | .t b=>Jm k b
def amT{k}{v}(b:abi k v=af):∀d∈v.al,d<k:=by
 cases v with
 |c x=>exact abh b
 |a cs=>exact AK b
 |t f=>exact NF b
inductive Pd where
 |s (p:E D4)
 |k (v:AV)
def lj(t:Tr):Pd->aw AV
 | .s p=>km p t
 | .k v=>ae v
def yL(t:Tr)(l:E Pd):aw (E AV):=lW (motive:=λ_=>aw<|E AV) (ae [])
 (λx _ a=>match lj t x with
  |some v=>(match a with
   |some vs=>ae<|v::vs
   |none=>none)
  |none=>none) l
def jl(dep n:G):ff->aw Pd
 | .tmp a=>(match dK a n with
  |true=>ae<|.s<|db dep a
  |false=>none)
 | .const v=>ae<|.k<|EL v
 | .func f=>ae<|.k<|.c<|.V<|.func (.func f) #[] #[]
 | .global _=>none
def yM(dep n:G):E ff->aw (E Pd)
 |[]=>ae []
 |x::xs=>(match jl dep n x,yM dep n xs with
  |some p,ae ps=>ae<|p::ps
  |_,_=>none)
abbrev Ms:=E Mem
def bI(a:G)(d:Ms):aw aC:=lW (motive:=λ_=>aw aC) none
 (λm _ f=>match nF a m with
  |some b=>ae b
  |none=>f) d
def rU(a:G)(b:aC)(d:Ms):Ms:=lW (motive:=λ_=>Ms) []
 (λm r f=>match nF a m with
  |some _=>Jl a b m::r
  |none=>m::f) d
def vR(a:G):Ms->Ms
 |[]=>[]
 |m::b=>ud a m::vR a b
def AL(k:G)(b:aC):Ms->Ms
 |m::a=>((k,b)::m)::a
 |[]=>[[(k,b)]]
def kp(a:G):∀d:Ms,L a d.flatten=bI a d
 |[]=>rfl
 |m::f=>by
  have g:=kp a f;show _=match nF a m with|some b=>ae b|none=>bI a f
  rw[MS,FK,yK,g];cases L a m<;>rfl
def FW(d a:G)(b:aC):∀i:Ms,bI d (rU a b i)=match bI a i with
  |some _=>if a=d then ae b else bI d i
  |none=>bI d i
 |[]=>rfl
 |m::f=>by
  have l:=FW d a b f;have k:∀d(m:Mem)(f:Ms),bI d (m::f)=match nF d m with|some b=>ae b|none=>bI d f:=λ_ _ _=>rfl
  have n:rU a b (m::f)=match nF a m with|some _=>Jl a b m::f|none=>m::rU a b f:=rfl
  rw[n,k a m f];cases h:nF a m with
  |some x=>
   simp only[k,yK,abb,pQ]
   by_cases g:a=d
   .simp[g]
   .simp[g]
  |none=>
   simp only[k,l]
   cases h2:bI a f with
   |none=>rfl
   |some x=>
    by_cases g:a=d
    .subst g;simp[h]
    .simp[g]
def CS(a d:G):∀g:Ms,bI a (vR d g)=if d=a then none else bI a g
 |[]=>by simp[vR,bI]
 |m::f=>by
  have i:=CS a d f;have k:∀a(m:Mem)(f:Ms),bI a (m::f)=match nF a m with|some b=>ae b|none=>bI a f:=λ_ _ _=>rfl
  simp only[vR,k,yK,Cq,i];by_cases l:d=a<;>simp[l]
def Jn a k b ms:bI a (AL k b ms)=if k=a then ae b else bI a ms:=by
 have d:∀a(m:Mem)(r:Ms),bI a (m::r)=match nF a m with|some b=>ae b|none=>bI a r:=λ_ _ _=>rfl
 cases ms with
 |nil=>simp only[AL,d,yK,L];by_cases h:k=a<;>simp[h,bI]
 |cons m r=>simp only[AL,d,yK,L];by_cases h:k=a<;>simp[h]
inductive Ft where
 |n
 |m (rd a:E G)
 |c (k b:G) (d:E G)
inductive Rs where
 |no
 |ok (t:Tr) (ms:Ms) (k:G) (a:E G) (f:Ft)
inductive Cr where
 |no
 |ok (r:AV) (ms:Ms) (k:G) (a:E G)
abbrev nG:=jk->E AV->Ms->G->Cr
inductive NG where
 |mv (d:E D4) (x:Pd)
 |bin (d:E D4) (op:BinOp) (a:G) (x b:Pd)
 |idx (d:E D4) (a:G) (x i:Pd)
 |fad (d:E D4) (a:G) (x:Pd) (f:G)
 |ext (d:E D4) (x:Pd) (k:G)
 |len (d:E D4) (a:G) (x:Pd)
 |ld (d:E D4) (a:G) (x:Pd)
 |st (a:G) (x b:Pd)
 |gen (d:aw (G×E D4)) (sl:E (G×E D4)) (op:Op)
 |call (d:E D4) (f:jk) (args:E Pd)
 |abk (d:E D4) (x:Pd) (args:E Pd)
def vT(d:E D4)(v:AV)(t:Tr)(a:Ms)(k:G)(b:E G)(f:Ft):Rs:=match abi k v with
 |true=> .ok (kO d v t) a k b f
 |false=> .no
def NH(d:E D4)(a:aw (AV×Pr))(t:Tr)(b:Ms)(k:G)(f:E G):Rs:=match a with
 |some (v,p)=>(match vP p with
  |true=>vT d v t b (k+1) f .n
  |false=> .no)
 |none=> .no
def abl(a:TT)(b:G)(v d:AV):aw (AV×Pr):=match M8 a b v d with
 |some r=>ae r
 |none=>Mq a b v d
def abm(a:TT)(b:G)(v:AV):aw AV:=match M9 a b v with
 |some r=>ae r
 |none=>Ie a b v
def NI(l:E C):G->aw C:=lW (motive:=λ_=>G->aw C) (λ_=>none) (λc _ a n=>NJ (motive:=λ_=>aw C) (ae c) (λm _=>a m) n) l
def abn(n:G):E C->E C:=NJ (motive:=λ_=>E C->E C) (λl=>l) (λ_ a l=>lW (motive:=λ_=>E C) [] (λ_ r _=>a r) l) n
def CT(a:C):aw (E C)->aw (E C)
 |some b=>ae<|a::b
 |none=>none
def TS(n:G):E C->aw (E C):=NJ (motive:=λ_=>E C->aw (E C)) (λ_=>ae []) (λ_ a l=>lW (motive:=λ_=>aw<|E C) none (λc r _=>CT c<|a r) l) n
def TU(a:E C):E C->aw (E C):=lW (motive:=λ_=>E C->aw (E C)) (λl=>ae l) (λu _ b l=>lW (motive:=λ_=>aw<|E C) none (λ_ r _=>CT u<|b r) l) a
def TV(b:E C)(a:G):E C->aw (E C):=NJ (motive:=λ_=>E C->aw (E C)) (TU b) (λ_ d l=>lW (motive:=λ_=>aw<|E C) none (λc r _=>CT c<|d r) l) a
def abo:∀(l:E C)(n:G),NI l n=l[n]?
 |[],n=>by simp[NI]
 |b::a,0=>rfl
 |b::a,n+1=>by show NI a n=_;rw[abo a n,w5]
def abp:∀(n:G)(l:E C),abn n l=az n l
 |0,l=>rfl
 |n+1,[]=>rfl
 |n+1,b::a=>abp n a
def TW{d}{b}{x}(f:CT d b=ae x):∃a,b=ae a/\x=d::a:=by
 cases b with
 |none=>cases f
 |some a=>cases f;exact⟨a,J,J⟩
def abq:∀(n:G)(l x:E C),TS n l=ae x->n<=Z l/\x=c n l
 |0,l,x,a=>by cases a;exact⟨bm _,J⟩
 |n+1,[],x,a=>by cases a
 |n+1,d::b,x,a=>by obtain⟨f,g,rfl⟩:=TW (show CT d (TS n b)=ae x from a);let ⟨i,h2⟩:=abq n b f g;exact⟨by simpa using i,by simp[h2]⟩
def abr:∀(a l x:E C),TU a l=ae x->Z a<=Z l/\x=a++az (Z a) l
 |[],l,x,b=>by cases b;exact⟨bm _,J⟩
 |u::a,[],x,b=>by cases b
 |u::a,k::d,x,b=>by obtain⟨f,g,rfl⟩:=TW (show CT u (TU a d)=ae x from b);let ⟨i,h2⟩:=abr a d f g;exact⟨by simpa using i,by simp[h2]⟩
def abt(b:E C):∀(a:G)(l x:E C),TV b a l=ae x->a+Z b<=Z l/\x=cK l b a
 |0,l,x,d=>by let ⟨f,h2⟩:=abr b l x d;exact⟨Y,by simp[cK,h2]⟩
 |a+1,[],x,d=>by cases d
 |a+1,c::r,x,d=>by obtain⟨y,g,rfl⟩:=TW (show CT c (TV b a r)=ae x from d);let ⟨f,h2⟩:=abt b a r y g;refine⟨b6,?_⟩;simp[cK,h2,(Y:a+1+Z b=a+Z b+1)]
def Jo(d:E C)(b sz:G)(f:Bool):aw AV:=match f with
 |true=>(match TS sz (abn b d)with
  |some x=>ae<|.a x
  |none=>none)
 |false=>(match NI d b with
  |some c=>ae<|.c c
  |none=>none)
def TX{d}{b sz}{f}{x}(a:Jo d b sz f=ae x)(k:sz=0->b<=Z d):oN d b sz f=ae x:=by
 unfold Jo at a;unfold oN;split at a
 .split at a
  .rename_i y l;cases a;let ⟨g,h2⟩:=abq _ _ _ l;rw[abp]at g h2;rw[q J,q (by simp at g;by_cases m:sz=0;have:=k m;omega;omega),h2]
  .cases a
 .split at a
  .rename_i c i;cases a;rw[abo]at i;simp[i]
  .cases a
def TY(b:TT)(d:Ms)(f:G)(v:AV):aw (AV×E G):=match pJ b f with
 |some (0,_)=>none
 |some (sz,a)=>(match v with
  | .c (.P id off)=>(match bI id d with
   |some (.box _ _ cs)=>(match Jo cs off sz a with
    |some y=>ae (y,[id])
    |none=>none)
   |some (.fz _ cs)=>(match Jo cs off sz a with
    |some y=>ae (y,[id])
    |none=>none)
   |_=>none)
  | .c (.E T e off)=>(match Jo (av T e) off sz a with
   |some y=>ae (y,[])
   |none=>none)
  |_=>none)
 |none=>none
def NK:E C->Bool
 |[]=>af
 |a::b=>match lz a with
  |true=>NK b
  |false=>ak
def abu:∀{l:E C},NK l=af->l.all lz=af
 |[],_=>rfl
 |d::f,a=>by
  simp only[NK]at a;split at a
  .rename_i b;simp[b,abu a]
  .cases a
def abv(d b sz:G)(a:E C):aw aC->aw (G×aC×E C)
 |some (.box f g cs)=>(match iP (Z a) sz&&NK a with
  |true=>(match TV a b cs with
   |some x=>ae (d,.box f g x,a)
   |none=>none)
  |false=>none)
 |_=>none
def TZ(a:TT)(b:Ms)(d:G)(x v:AV):aw (G×aC×E C):=match pJ a d,x,lP v with
 |some (sz,_),.c (.P id off),ae us=>abv id off sz us<|bI id b
 |_,_,_=>none
def CU(d a:G)(b:E G):E G:=match dK a d with
 |true=>a::b
 |false=>b
def NL(d:G)(a b:E G):E G:=match a with
 |[]=>b
 |_=>a.filter (λf=>dK f d)++b
def NM(k:G):E (E C×E C)->Bool
 |[]=>af
 |x::a=>match vQ k x.1 with
  |true=>(match vQ k x.2 with
   |true=>NM k a
   |false=>ak)
  |false=>ak
def abw{k:G}:∀{xs:E (E C×E C)},NM k xs=af->∀b∈lL xs,b<k
 |[],_,b,a=>by simp[lL]at a
 |x::i,d,b,a=>by
  simp only[NM]at d;split at d
  .rename_i f;split at d
   .rename_i g;simp only[lL,bg]at a;rcases a with a|a|a
    .exact AK f b a
    .exact AK g b a
    .exact abw d b a
   .cases d
  .cases d
def Jp(k:G):aC->Bool
 | .box _ _ cs=>vQ k cs
 | .vec _ _ _=>af
 | .dS _ a b=>match Jm k a with
  |true=>Jm k b
  |false=>ak
 | .fz _ cs=>vQ k cs
 | .mp _ _ xs=>NM k xs
 | .it m _ _=>dK m k
def abx{k}{b}(d:Jp k b=af):∀i∈b.al,i<k:=by
 cases b with
 |box E z cs=>exact AK d
 |vec E T xs=>simp[aC.al]
 |dS f a b=>
  simp only[Jp]at d
  split at d
  .rename_i l;intro i g;simp only[aC.al,bg]at g;exact g.elim (NF l i)<|NF d i
  .cases d
 |fz E cs=>exact AK d
 |mp p s xs=>exact abw d
 |it m n seen=>simpa[aC.al,Jp]using d
def oX(b:E (G×E D4))(t:Tr):E (G×AV):=lW (motive:=λ_=>E<|G×AV) []
 (λx _ a=>match km x.2 t with
  |some v=>(x.1,v)::a
  |none=>a) b
def AM:E (G×AV)->E G
 |[]=>[]
 | (_,v)::a=>v.al++AM a
def uy(a:E G)(g:Ms):Mem:=lW (motive:=λ_=>Mem) []
 (λd _ f=>match bI d g with
  |some b=>(d,b)::f
  |none=>f) a
def aby:Ja:=λ_ _ _ _=>none
def mK:E Key->E G
 |[]=>[]
 | .m id::a=>id::mK a
 | .s _::a=>mK a
def wS(d:aw G):E Key->Bool
 |[]=>af
 | .m _::a=>wS d a
 | .s b::a=>(match d with
  |some d=>(match iP d b with
   |true=>wS (ae d) a
   |false=>ak)
  |none=>ak)
def CV(a:G):E G->Bool
 |[]=>ak
 |x::b=>match iP x a with
  |true=>af
  |false=>CV a b
def rS(a:E G):E Key->Bool
 |[]=>af
 | .m _::b=>rS a b
 | .s d::b=>(match CV d a with
  |true=>rS a b
  |false=>ak)
def CW(k m:G)(n f:Mem)(i:E G):Ms->E G->aw (Ms×E G):=lW (motive:=λ_=>Ms->E G->aw (Ms×E G))
 (λd g=>ae (d,g))
 (λa _ l d g=>match nF a f with
  |some b=>(match Jp (k+1) b with
   |true=>(match iP a k with
    |true=>l (AL k b d) g
    |false=>(match bI a d with
     |some _=>l (rU a b d)<|CU m a g
     |none=>none))
   |false=>none)
  |none=>(match nF a n with
   |some _=>l (vR a d)<|CU m a g
   |none=>none)) i
def T0(s:TT)(n z:G)(d:aw (G×E D4))(A:E (G×E D4))(op:Op)(t:Tr)(u:Ms)(k:G)(x:E G)(b:E (G×AV))(l:Mem):Rs:=
 match TF aby s n k (d.map (·.1)) op ⟨b,l,0,[]⟩with
 |some (f,B,a)=>(match iP B (k+1)&&wS (d.map (·.1)) a.2&&rS (A.map (·.1)) a.1 with
  |true=>(match CW k z l f.mem (mK a.2) u x with
   |some (g,i)=>(match d with
    |none=> .ok t g (k+1) i<|.m (mK a.1)<|mK a.2
    |some (C,p)=>(match L C f.sl with
     |some v=>vT p v t g (k+1) i<|.m (mK a.1)<|mK a.2
     |none=> .no))
   |none=> .no)
  |false=> .no)
 |none=>(match d with
  |some (_,p)=>NH p (xq s ⟨b,l,0,[]⟩ op) t u k x
  |none=> .no)
def FX(b:nG)(l:G)(d:E D4)(f:jk)(vs:E AV)(t:Tr)(m:Ms)(k:G)(n:E G):Rs:=match b f vs m k with
 | .ok r g i a=>vT d r t g i (NL l a n)<|.c k i a
 | .no=> .no
def T1(d:E D4)(x:Pd)(t:Tr)(a:Ms)(k:G)(b:E G):Rs:=match lj t x with
 |some v=>vT d v t a (k+1) b .n
 |none=> .no
def abz(f:TT)(d:E D4)(op:BinOp)(g:G)(a b:C)(t:Tr)(i:Ms)(k:G)(l:E G):Rs:=match TH f op g (.c a) (.c b)with
 |some u=>vT d u t i (k+1) l .n
 |none=> .no
def abA(d:E D4)(a:C)(p:Pr)(t:Tr)(b:Ms)(k:G)(f:E G):Rs:=match vP p with
 |true=> .ok (kO d (.c a) t) b (k+1) f .n
 |false=> .no
def abB(f:TT)(d:E D4)(op:BinOp)(g:G)(a b:C)(t:Tr)(i:Ms)(k:G)(l:E G):Rs:=match EP f op g a b with
 |some (c,p)=>abA d c p t i k l
 |none=>abz f d op g a b t i k l
def abC(f:TT)(d:E D4)(op:BinOp)(g:G)(x i:Pd)(t:Tr)(l:Ms)(k:G)(m:E G):Rs:=match lj t x,lj t i with
 |some (.c a),ae (.c b)=>abB f d op g a b t l k m
 |_,_=> .no
def abD(a:TT)(d:E D4)(b:G)(x i:Pd)(t:Tr)(f:Ms)(k:G)(g:E G):Rs:=match lj t x,lj t i with
 |some v,ae w=>NH d (abl a b v w) t f k g
 |_,_=> .no
def abE(a:TT)(d:E D4)(b:G)(x:Pd)(f:G)(t:Tr)(g:Ms)(k:G)(i:E G):Rs:=match lj t x with
 |some v=>(match Mm a b v f with
  |some u=>vT d u t g (k+1) i .n
  |none=> .no)
 |none=> .no
def abF(d:E D4)(x:Pd)(a:G)(t:Tr)(b:Ms)(k:G)(f:E G):Rs:=match lj t x with
 |some v=>(match Mn v a with
  |some u=>vT d u t b (k+1) f .n
  |none=> .no)
 |none=> .no
def abG(a:TT)(d:E D4)(b:G)(x:Pd)(t:Tr)(f:Ms)(k:G)(g:E G):Rs:=match lj t x with
 |some v=>(match abm a b v with
  |some u=>vT d u t f (k+1) g .n
  |none=> .no)
 |none=> .no
def abH(b:TT)(d:E D4)(f:G)(x:Pd)(t:Tr)(a:Ms)(k:G)(g:E G):Rs:=match lj t x with
 |some v=>(match TY b a f v with
  |some (u,ids)=>vT d u t a (k+1) g<|.m ids []
  |none=> .no)
 |none=> .no
def abI(d a:G)(b:aC)(f:E C)(t:Tr)(g:Ms)(k:G)(i:E G):Rs:=match vQ k f with
 |true=> .ok t (rU a b g) (k+1) (CU d a i)<|.m [a] [a]
 |false=> .no
def abJ(d:TT)(f:G)(g:G)(x i:Pd)(t:Tr)(a:Ms)(k:G)(l:E G):Rs:=match lj t x,lj t i with
 |some v,ae w=>(match TZ d a g v w with
  |some (id,b,us)=>abI f id b us t a k l
  |none=> .no)
 |_,_=> .no
def amU(g:TT)(n i:G)(d:aw (G×E D4))(b:E (G×E D4))(op:Op)(t:Tr)(f:Ms)(k:G)(l:E G):Rs:=match oX b t with
 |a=>T0 g n i d b op t f k l a<|uy (AM a) f
def abK(a:nG)(b:G)(d:E D4)(f:jk)(args:E Pd)(t:Tr)(g:Ms)(k:G)(i:E G):Rs:=match yL t args with
 |some vs=>FX a b d f vs t g k i
 |none=> .no
def abL(a:nG)(g:G)(d:E D4)(x:Pd)(args:E Pd)(t:Tr)(b:Ms)(k:G)(i:E G):Rs:=match yL t args with
 |some vs=>(match lj t x with
  |some (.c<|.V<|.func (.func f) ⟨[]⟩ ⟨[]⟩)=>FX a g d f vs t b k i
  |some (.c<|.X id)=>(match bI id b with
   |some (.dS f first caps)=>(match sZ first,sZ caps with
    |some us,ae ws=>FX a g d f (us++(vs++ws)) t b k i
    |_,_=> .no)
   |_=> .no)
  |_=> .no)
 |none=> .no
def rV(b:nG)(a:TT)(n g:G)(i:NG):Tr->Ms->G->E G->Rs:=match i with
 | .mv d x=>T1 d x
 | .bin d op ty x y=>abC a d op ty x y
 | .idx d ty x i=>abD a d ty x i
 | .fad d ty x f=>abE a d ty x f
 | .ext d x j=>abF d x j
 | .len d ty x=>abG a d ty x
 | .ld d ty x=>abH a d ty x
 | .st ty x y=>abJ a g ty x y
 | .gen d sl op=>amU a n g d sl op
 | .call d f args=>abK b g d f args
 | .abk d x args=>abL b g d x args
structure GI where
 g:aw (E D4×Bool)
 d:aw (E D4)
 i:NG
def xr(a:nG)(m:TT)(n p:G)(x:GI)(t:Tr)(f:Ms)(k:G)(l:E G):Rs:=match x.g with
 |none=>rV a m n p x.i t f k l
 |some (s,want)=>(match km s t with
  |some (.c<|.B b)=>(match b==want with
   |true=>rV a m n p x.i t f k l
   |false=>(match x.d with
    |some d=> .ok (FO d t) f (k+1) l .n
    |none=> .no))
  |_=> .no)
def xt(a:nG)(i:TT)(n m:G)(l:E GI):Tr->Ms->G->E G->Rs:=lW (motive:=λ_=>Tr->Ms->G->E G->Rs)
 (λt b k d=> .ok t b k d .n)
 (λx _ p t b k d=>match xr a i n m x t b k d with
  | .ok s f u g _=>p s f u g
  | .no=> .no) l
inductive Rd where
 |no
 |ok (t:Tr) (ms:Ms) (k:G) (a:E G) (fs:E Ft)
def yN(a:nG)(p:TT)(n s:G)(l:E GI):Tr->Ms->G->E G->E Ft->Rd:=lW (motive:=λ_=>Tr->Ms->G->E G->E Ft->Rd)
 (λt b k d g=> .ok t b k d g)
 (λx _ u t b k d g=>match xr a p n s x t b k d with
  | .ok v i z m f=>u v i z m<|f::g
  | .no=> .no) l
def FY:E G->E G->Bool
 |[],_=>ak
 |x::a,l=>match CV x l with
  |true=>af
  |false=>FY a l
def Jq(k a:G)(b:E G):E G->Bool
 |[]=>ak
 |x::d=>match CV x b with
  |true=>af
  |false=>(match eL k x&&dK x a with
   |true=>af
   |false=>Jq k a b d)
def Jr(k:G):E G->Bool
 |[]=>ak
 |x::a=>match dK x k with
  |true=>af
  |false=>Jr k a
def CY:Ft->Ft->Bool
 | .n,_=>ak
 |_,.n=>ak
 | .m b a,.m g f=>FY a f||FY a g||FY b f
 | .m b a,.c k d wl=> !a.isEmpty||Jq k d wl b
 | .c k d wl,.m b a=>Jr k a||Jr d a||Jq k d wl b
 | .c _ _ _,.c _ _ _=>af
def FZ(a:E Ft):E (G×G)->Bool
 |[]=>af
 | (i,b)::d=>match CY (a.getD i .n) (a.getD b .n)with
  |true=>ak
  |false=>FZ a d
def qB:Op->E ff
 | .call ⟨.value a,args,_⟩=>a::args.toList
 |op=>op.operands.toList
def slotsOf:E ff->E G
 |[]=>[]
 | .tmp b::a=>b::slotsOf a
 |_::a=>slotsOf a
def F1(dep n:G):E G->aw (E<|G×E D4)
 |[]=>ae []
 |a::b=>(match dK a n,F1 dep n b with
  |true,ae l=>ae<|(a,db dep a)::l
  |_,_=>none)
def NN(dep n:G)(d:aw G)(op:Op):aw NG:=match F1 dep n (slotsOf op.operands.toList)with
 |some sl=>(match d with
  |some d=>ae<|.gen (ae (d,db dep d)) sl op
  |none=>ae<|.gen none sl op)
 |none=>none
def Js(dep n:G)(d:aw G)(op:Op):aw NG:=match d with
 |none=>(match op with
  | .store t x y=>(match jl dep n x,jl dep n y with
   |some p,ae q=>ae<|.st t p q
   |_,_=>none)
  |op=>NN dep n none op)
 |some d=>(match dK d n with
  |false=>none
  |true=>(match op with
   | .move x=>(match jl dep n x with
    |some p=>ae<|.mv (db dep d) p
    |none=>none)
   | .assign x=>(match jl dep n x with
    |some p=>ae<|.mv (db dep d) p
    |none=>none)
   | .binOp o t x y _=>(match jl dep n x,jl dep n y with
    |some p,ae q=>ae<|.bin (db dep d) o t p q
    |_,_=>none)
   | .indexAddr t x y=>(match jl dep n x,jl dep n y with
    |some p,ae q=>ae<|.idx (db dep d) t p q
    |_,_=>none)
   | .fieldAddr t x f=>(match jl dep n x with
    |some p=>ae<|.fad (db dep d) t p f
    |none=>none)
   | .extract x j=>(match jl dep n x with
    |some p=>ae<|.ext (db dep d) p j
    |none=>none)
   | .load t x=>(match jl dep n x with
    |some p=>ae<|.ld (db dep d) t p
    |none=>none)
   | .call ⟨.value<|.func f,args,_⟩=>(match yM dep n args.toList with
    |some ps=>ae<|.call (db dep d) f ps
    |none=>none)
   | .call ⟨.value<|.tmp j,args,_⟩=>(match jl dep n (.tmp j),yM dep n args.toList with
    |some p,ae ps=>ae<|.abk (db dep d) p ps
    |_,_=>none)
   | .call ⟨.builtin .len,⟨[x]⟩,⟨[t]⟩⟩=>(match jl dep n x with
    |some p=>ae<|.len (db dep d) t p
    |none=>none)
   |op=>NN dep n (ae d) op))
def T2(dep n:G)(a:E a8)(b:a8):aw GI:=match Js dep n b.dst b.op with
 |some i=>(match b.guard with
  |none=>ae ⟨none,none,i⟩
  |some (j,want)=>(match sQ a j with
   |some f=>(match dK f n with
    |true=>(match b.dst with
     |some d=>ae ⟨ae (db dep f,want),ae<|db dep d,i⟩
     |none=>ae ⟨ae (db dep f,want),none,i⟩)
    |false=>none)
   |none=>none))
 |none=>none
def xu(dep n:G)(a:E a8):E a8->aw (E GI)
 |[]=>ae []
 |b::os=>(match T2 dep n a b,xu dep n a os with
  |some g,ae gs=>ae<|g::gs
  |_,_=>none)
def yO(a:E a8)(b:a8):Ks:=
 ((match b.guard with
  |none=>bH<|qB b.op
  |some (j,_)=>(match sQ a j with
   |some f=> .s f::bH (qB b.op)
   |none=>bH<|qB b.op)),
  match b.dst with
  |some d=>[.s d]
  |none=>[])
def oY(a:a8):Bool:=match a.dst with
 |none=>af
 |some _=>(match a.op with
  | .move _=>ak
  | .assign _=>ak
  | .binOp _ _ _ _ _=>ak
  | .indexAddr _ _ _=>ak
  | .fieldAddr _ _ _=>ak
  | .extract _ _=>ak
  |_=>af)
def F3(m a:G):E a8->G->E (G×G)
 |[],_=>[]
 |b::os,i=>if i<a then(if oY b&& !m.testBit i then(i,a)::F3 m a os (i+1)else F3 m a os (i+1))else[]
def F4(a:E a8):E G->E a8->G->E (G×G)
 |m::ms,d::os,b=>if oY d then F3 m b a 0++F4 a ms os (b+1)else F4 a ms os (b+1)
 |_,_,_=>[]
def NO(dep n:G)(a:E a8)(b:Bool):aw (E GI×aw (E<|G×G)):=match xu dep n a a with
 |some gs=>(match b with
  |false=>ae (gs,none)
  |true=>if rE a (a.map<|yO a)=af then ae (gs,ae<|F4 a (rC a []) a 0)else none)
 |none=>none
def F5(i a:G):AV->AV
 | .c (.X k)=>if k=a then .c (.X i)else .c (.X k)
 |v=>v
def F6(i a:G):E (G×AV)->E (G×AV)
 |[]=>[]
 | (t,v)::b=>(t,F5 i a v)::F6 i a b
def CZ(i a:G):E (G×aC)->E (G×aC)
 |[]=>[]
 | (k,b)::d=>(if k=a then i else k,b)::CZ i a d
def NP(i a:G):AV->Bool
 | .c (.X k)=> !(k==i)
 |v=>v.al.all λk=> !(k==i)&& !(k==a)
def NQ(i a:G):E (G×AV)->Bool
 |[]=>af
 | (_,v)::b=>NP i a v&&NQ i a b
def F7(i a:G):E (G×aC)->Bool
 |[]=>af
 | (k,b)::d=> !(k==i)&&(b.al.all λk=> !(k==i)&& !(k==a))&&F7 i a d
def abM(i a t:G):∀l:E (G×AV),L t (F6 i a l)=(L t l).map (F5 i a)
 |[]=>rfl
 | (k,v)::b=>by simp only[F6,L,abM i a t b];split<;>rfl
def abN{i b t:G}{v:AV}:∀{l:E (G×AV)},NQ i b l=af->L t l=ae v->NP i b v=af
 |[],_,a=>by simp[L]at a
 | (k,x)::d,a,hl=>by
  simp only[NQ,cG]at a;simp only[L]at hl;split at hl
  .cases hl;exact a.1
  .exact abN a.2 hl
def abO{i d t:G}{b:aC}:∀{l:E (G×aC)},F7 i d l=af->L t l=ae b->t≠i/\∀k∈b.al,k≠i/\k≠d
 |[],_,a=>by simp[L]at a
 | (k,x)::m,a,hl=>by
  simp only[F7,cG,nw]at a;simp only[L]at hl;split at hl
  .rename_i f;cases hl;subst f;exact⟨by simpa using a.1.1,λk g=>by simpa using a.1.2 k g⟩
  .exact abO a.2 hl
def T3{i m:G}(t:G){b:aC}:∀{l:E (G×aC)},F7 i m l=af->L t (CZ i m l)=ae b->(t=i/\L m l=ae b)\/(t≠i/\t≠m/\L t l=ae b)
 |[],_,f=>by simp[CZ,L]at f
 | (k,x)::u,f,hl=>by
  simp only[F7,cG]at f;have n:k≠i:=by simpa using f.1.1
  simp only[CZ,L]at hl;by_cases a:k=m
  .rw[q a]at hl;subst a;split at hl
   .rename_i e;cases hl;exact .inl ⟨e.symm,by simp[L]⟩
   .rename_i d;rcases T3 t f.2 hl with⟨rfl,_⟩|⟨p,g,s⟩
    .exact aJ J d
    .exact .inr ⟨p,g,by simp only[L];rw[j (λ(e:k=t)=>g e.symm)];exact s⟩
  .rw[j a]at hl;split at hl
   .rename_i e;cases hl;subst e;exact .inr ⟨n,a,by simp[L]⟩
   .rename_i d;rcases T3 t f.2 hl with⟨rfl,g⟩|⟨p,g,s⟩
    .exact .inl ⟨J,by simp only[L,j a];exact g⟩
    .exact .inr ⟨p,g,by simp only[L,j d];exact s⟩
def iw i z{sl}{mem}{nx}{gd}(hi:dK i (1000000*nx)=af)(hs:NQ i z sl=af)(hm:F7 i z mem=af)(Sq:eL 1 i=af:=by rfl):Wk ⟨sl,mem,nx,gd⟩ ⟨F6 i z sl,CZ i z mem,nx,gd⟩:=by
 intro F og g W a h;have hi:i<1000000*nx:=by simpa[ux]using hi
 let I:Gh:=⟨g.H,λl=>if l=i then g.γ z else g.γ l⟩;have D:gw (λl=>l≠i) g I:=⟨cD.refl _,λl d=>j d⟩;have o:I.γ i=g.γ z:=q J;have K:∀l,l≠i->I.γ l=g.γ l:=λl d=>j d
 have hS:∀t r,St.kn ⟨F6 i z sl,CZ i z mem,nx,gd⟩ (.s t)=ae (.v r)->∃v,L t sl=ae v/\r=F5 i z v:=by intro t r e;simp only[St.kn,abM,Option.map_map,bS]at e;let ⟨v,hv,he⟩:=e;cases he;exact⟨v,hv,J⟩
 have S:∀t b,St.kn ⟨F6 i z sl,CZ i z mem,nx,gd⟩ (.m t)=ae (.b b)->(t=i/\L z mem=ae b)\/(t≠i/\t≠z/\L t mem=ae b):=by intro t b e;simp only[St.kn,bS]at e;let ⟨v,hv,he⟩:=e;cases he;exact T3 t hm hv
 have c:∀t u b,L t mem=ae b->gL F.N g W t b->I.γ u=g.γ t->gL F.N I W u b:=by
  intro t u b A w hγ;have B:=(abO hm A).2;cases b with
  |box E bz cs=>
   let ⟨k,vs,rest,e1,Q,M,U,e5,e6⟩:=w
   exact⟨k,vs,rest,rL,Q,a4.mono D (λl d=>(B l d).1) M,U,e5,by rw[hγ];exact e6⟩
  |vec E T ys=>
   rcases w with⟨e1,Q⟩|⟨k,cap,vs,e1,Q⟩
   .exact .inl ⟨rL,Q⟩
   .exact .inr ⟨k,cap,vs,rL,Q⟩
  |dS f first caps=>
   let ⟨us,ws,e1,Q,M⟩:=w
   exact⟨us,ws,rL,dy.mono D (λl d=>(B l<|eH _ d).1) Q,dy.mono D (λl d=>(B l<|gx _ d).1) M⟩
  |fz E cs=>
   let ⟨k,vs,rest,e1,Q,M,U,e5⟩:=w
   exact⟨k,vs,rest,rL,Q,a4.mono D (λl d=>(B l d).1) M,U,e5⟩
  |mp ka va ys=>
   let ⟨k,es,e1,Q,M,U⟩:=w
   exact⟨k,es,rL,Q,iX.mono D (λl d=>(B l d).1) M,U⟩
  |it m n seen=>
   let ⟨k,b,e1,e0,Q⟩:=w
   exact⟨k,b,rL,by rw[D.γ m (B m<|by simp[aC.al]).1];exact e0,Q⟩
 have p:∀t b,L t mem=ae b->St.kn ⟨sl,mem,nx,gd⟩ (.m t)=ae (.b b):=λt b A=>by simp[St.kn,A]
 refine⟨I,h.size,h.defers,?_,?_,?_,?_,?_,h.sub,h.below,h.le,h.fresh,λl d=>⟨(h.fB l d).1,by have:=cQ Sq;rw[K l Y];exact(h.fB l d).2⟩⟩
 .intro t r e;obtain⟨v,hv,rfl⟩:=hS t r e;have w:=h.dH t v rI;have y:=abN hs hv;unfold F5;split
  .rename_i k;have CO:k≠i:=by simpa[NP]using y
   have V:a.tmps.getD t undef=g.γ k:=w;split
   .rename_i e';subst e';show _=I.γ i;rw[o];exact V
   .show _=I.γ k;rw[K k CO];exact V
  .rename_i ew;refine bf.mono D (λl d=>?_) w;unfold NP at y;split at y
   .rename_i k;exact aJ J<|ew k
   .have:=(nw.1 y) l d;simp at this;exact this.1
 .intro t b e;rcases S t b e with⟨rfl,A⟩|⟨O,h2,A⟩
  .exact c z t b A (h.cE z b<|p z b A) o
  .exact c t t b A (h.cE t b<|p t b A)<|K t O
 .intro t u b P k e e' R X;rcases S t b e with⟨rfl,A⟩|⟨O,h2,A⟩<;>rcases S u P e' with⟨rfl,G⟩|⟨Z,FE,G⟩
  .rfl
  .rw[o]at R;rw[K u Z]at X;exact aJ (h.inj z u b P k (p _ _ A) (p _ _ G) R X)<|λe=>FE e.symm
  .rw[o]at X;rw[K t O]at R;exact aJ (h.inj t z b P k (p _ _ A) (p _ _ G) R X) h2
  .rw[K t O]at R;rw[K u Z]at X;exact h.inj t u b P k (p _ _ A) (p _ _ G) R X
 .intro key x e l d;cases key with
  |s t=>
   cases x with
   |b P=>simp only[St.kn,bS]at e;let ⟨_,_,he⟩:=e;cases he
   |v r=>
    obtain⟨v,hv,rfl⟩:=hS t r e
    have Jt:=h.al (.s t) (.v v) rI
    have d:l∈(F5 i z v).al:=d
    unfold F5 at d
    split at d
    .split at d
     .simp only[AV.al,C.al,iM]at d;subst d;exact hi
     .exact Jt l d
    .exact Jt l d
  |m t=>
   cases x with
   |v r=>simp only[St.kn,bS]at e;let ⟨_,_,he⟩:=e;cases he
   |b P=>
    rcases S t P e with⟨rfl,A⟩|⟨O,h2,A⟩
    .exact h.al (.m z) (.b P) (p z P A) l d
    .exact h.al (.m t) (.b P) (p t P A) l d
 .intro t x e;cases x with
  |v r=>simp only[St.kn,bS]at e;let ⟨_,_,he⟩:=e;cases he
  |b P=>
   rcases S t P e with⟨rfl,A⟩|⟨O,h2,A⟩
   .exact hi
   .exact h.dI t _<|p t P A
def Wk.trans{a b d}(i:Wk a b)(k:Wk b d):Wk a d:=λF f g W ac l=>by let ⟨m,n⟩:=i F f g W ac l;exact k F f m W ac n
def F8{a b:Type}(f:a->b->Bool):E a->E b->Bool
 |[],[]=>af
 |x::xs,d::g=>f x d&&F8 f xs g
 |_,_=>ak
def lY.vU:ET->ET->Bool
 | .int k,.int a=>decide<|k=a
 | .bool,.bool=>af
 | .z,.z=>af
 | .q,.q=>af
 | .sl T,.sl b=>lY.vU T b
 | .pr A B,.pr d f=>lY.vU A d&&lY.vU B f
 |_,_=>ak
def lY:(T d:ET)->T.den->d.den->Bool
 | .int k,.int g,(n:Int),(m:Int)=>decide (k=g)&&decide (n=m)
 | .bool,.bool,(a:Bool),(b:Bool)=>a==b
 | .z,.z,(n:Int),(m:Int)=>decide<|n=m
 | .q,.q,(a:Rat),(b:Rat)=>decide (a.num=b.num)&&decide (a.den=b.den)
 | .sl T,.sl d,(xs:E T.den),(i:E d.den)=>lY.vU T d&&F8 (λx f=>lY T d x f) xs i
 | .pr A B,.pr l p,x,f=>lY A l x.1 f.1&&lY B p x.2 f.2
 |_,_,_,_=>ak
def amV:∀{T a:ET},lY.vU T a=af->T=a:=by
 intro T;induction T with
 |int k=>intro a h;cases a<;>simp[lY.vU]at h;rw[h]
 |bool=>intro a h;cases a<;>simp[lY.vU]at h;rfl
 |z=>intro a h;cases a<;>simp[lY.vU]at h;rfl
 |q=>intro a h;cases a<;>simp[lY.vU]at h;rfl
 |sl T f=>intro a h;cases a<;>simp[lY.vU]at h;rw[f h]
 |pr A B b d=>intro a h;cases a<;>simp[lY.vU]at h;rw[b h.1,d h.2]
def abP{b:Type}{f:b->b->Bool}(i:∀x d,f x d=af->x=d):∀{xs g:E b},F8 f xs g=af->xs=g
 |[],[],_=>rfl
 |x::xs,d::g,a=>by simp only[F8,cG]at a;rw[i _ _ a.1,abP i a.2]
 |[],_::_,a=>by simp[F8]at a
 |_::_,[],a=>by simp[F8]at a
def amW:∀(T:ET)(x a:T.den),lY T T x a=af->x=a:=by
 intro T;induction T with
 |int k=>intro x a h;simp only[lY,cG,mV]at h;exact h.2
 |bool=>intro x a h;exact eS h
 |z=>intro x a h;exact aX h
 |q=>intro x a h;simp only[lY,cG,mV]at h;exact Rat.ext h.1 h.2
 |sl T f=>intro x a h;simp only[lY,cG]at h;exact abP f h.2
 |pr A B b d=>intro x a h;simp only[lY,cG]at h;exact Prod.ext (b _ _ h.1)<|d _ _ h.2
def F9{a:Type}(f:a->E C->Bool)(n:G):E C->E a->Bool
 |_,[]=>af
 |cs,x::xs=>f x (c n cs)&&F9 f n (az n cs) xs
def amX(a:G):aw G->Bool
 |none=>af
 |some b=>eL a b
def Ju(a:G->aw aC)(T:ET)(f:T.den->E C->Bool)(b:C)(xs:E T.den):Bool:=
 match b with
 | .S d g=>lY (.sl d) (.sl T) g xs
 | .V (.slice none 0 0)=>xs.isEmpty
 | .L id off len cap=>iP len (Z xs)&&eL (len*T.n) 140737488355328&&amX len cap&&(match a id with
  |some (.box _ _ cs)=>F9 f T.n (az off cs) xs
  |some (.fz _ cs)=>F9 f T.n (az off cs) xs
  |_=>ak)
 |_=>ak
def Jv(a:G->aw aC)(z:Int):E C->Bool
 |[.B s,b]=>(s==cv z)&&Ju a (.int .u32) (λn d=>match d with|[.I .u32 m]=>decide (m=n)|_=>ak) b (eX z)
 |_=>ak
def xv(d:G->aw aC):(T:ET)->T.den->E C->Bool
 | .int k,n,a=>(match a with|[.I g m]=>decide (g=k)&&decide (m=n)|_=>ak)
 | .bool,b,a=>(match a with|[.B i]=>i==b|_=>ak)
 | .z,z,a=>Jv d z a
 | .q,f,a=>Jv d f.num (c 2 a)&&Jv d (f.den:Int) (az 2 a)
 | .sl T,xs,a=>(match a with|[l]=>Ju d T (λx a=>xv d T x a) l xs|_=>ak)
 | .pr A B,x,a=>xv d A x.1 (c A.n a)&&xv d B x.2 (az A.n a)
def NS(a:G->aw aC):C->C->Bool
 | .B b,.B d=>b==d
 | .I k n,.I f g=>decide (k=f)&&decide (n=g)
 |i,.S T xs=>Ju a T (xv a T) i xs
 |_,.any=>af
 |_,_=>ak
def xw(a:G->aw aC):E C->E C->Bool
 |[],[]=>af
 |b::cs,d::ds=>NS a b d&&xw a cs ds
 |_,_=>ak
def F'(a:G->aw aC):E (Bool×E C)->E (Bool×E C)->Bool
 |[],[]=>af
 | (b,cs)::d,(f,ds)::g=>(b==f)&&xw a cs ds&&F' a d g
 |_,_=>ak
def C0(b:G->aw aC):AV->AV->Bool
 | .c x,.c d=>NS b x d
 | .a cs,.a ds=>xw b cs ds
 | .t f,.t g=>F' b f g
 |_,_=>ak
section
variable{F:dB}{g:Gh}{W:World}{lk:G->aw aC}
structure xx(f:FH)(g:Gh)(W:World)(lk:G->aw aC):Prop where
 le:cD g.H f
 cF:∀a E d,((∃sz,lk a=ae (.box E sz d))\/lk a=ae (.fz E d))->∃b,∃vs rest:List aT,El.cF (g.γ a)=ae b/\(∀o,f b o=W.cell? ⟨b,o,none⟩)/\W.heap[b]? =ae (.cells (vs++rest).toArray E (0,0))/\a4 g d vs
variable{HF:FH}
def abQ{b:Type}{R:b->E aT->Prop}{f:b->E C->Bool}{n:G}(d:∀x a vs,f x a=af->a4 g a vs->R x vs)(k:∀x vs,R x vs->Z vs=n):∀(xs:E b){a:E C}{vs:E aT},F9 f n a xs=af->a4 g a vs->∀i(h:i<Z xs),R xs[i] ((az (i*n) vs).take n)
 |[],_,_,_,_,i,h=>by simp at h
 |x::xs,a,vs,hm,hr,i,h=>by
  simp only[F9,cG]at hm;cases i with
  |zero=>simp only[pM,qx,w6];exact d _ _ _ hm.1<|hr.take n
  |succ i=>
   have:=abQ d k xs hm.2 (hr.drop n) i eQ
   rw[rF,(Ii:n+i*n=(i+1)*n)]at this
   simpa using this
def T5(B:xx HF g W lk){T}{f:T.den->E C->Bool}(hf:∀x d vs,f x d=af->a4 g d vs->de HF T x vs){k}{xs}{v}(l:Ju lk T f k xs=af)(s:c6 g k v):mQ (de HF T) T.n HF xs v:=by
 unfold Ju at l;split at l
 .rename_i D q;have r:D=T:=by simp only[lY,cG]at l;exact amV l.1
  subst r;have:=amW (.sl D) q xs l;subst this;exact mQ.mono s B.le<|λx d=>de.mono B.le D x d
 .have:xs=[]:=List.isEmpty_iff.1 l;subst this;simp only[c6]at s;exact⟨none,0,s,aN _,ax,.inl J⟩
 .rename_i H a w K;simp only[cG]at l;let ⟨⟨⟨N,P⟩,y⟩,m⟩:=l;have N:=lX N;have P:=cQ P;subst N;have m:∃p d,((∃sz,lk H=ae (.box p sz d))\/lk H=ae (.fz p d))/\F9 f T.n (az a d) xs=af:=by
   split at m
   .rename_i p sz d t;exact⟨p,d,.inl ⟨sz,t⟩,m⟩
   .rename_i p d t;exact⟨p,d,.inr t,m⟩
   .cases m
  .let ⟨p,d,t,m⟩:=m;let ⟨b,vs,rest,z,G,hh,Q⟩:=B.cF H p d t;have u:=abQ (R:=de HF T) hf (λx vs h=>de.length T x vs h) xs m<|Q.drop a;have X:∃k,v= .slice (ae ⟨b,a,none⟩) (Z xs) k/\Z xs<=k:=by
    cases K with
    |none=>
     let ⟨I,L,k,A,e,M⟩:=s
     rw[A]at z
     simp only[El.cF,ar]at z
     subst z
     exact⟨k,by rw[I];exact e,M⟩
    |some k=>
     let ⟨L,A,e⟩:=s
     rw[z]at A
     cases A
     exact⟨k,e,cQ y⟩
   let ⟨k,X,hc⟩:=X;refine⟨ae ⟨b,a,none⟩,k,X,hc,P,?_⟩;by_cases hx:xs=[]
   .exact .inl hx
   .refine .inr ⟨b,a,J,λi o=>⟨_,de.length T _ _<|u i o,u i o,λj O=>?_⟩⟩;rw[G];simp only[hZ,yx]at O;simp only[sK,vk];rw[(Y:a+i*T.n+j=a+(i*T.n+j))];simp only[Iq,hh,vg];rw[E3 Y];exact cT Y
 .cases l
def T6(n:xx HF g W lk){z}{i}{vs}(a:Jv lk z i=af)(p:a4 g i vs):sB HF z vs:=by
 unfold Jv at a;split at a
 .rename_i b c;simp only[cG]at a;obtain⟨v,r,rfl,d,s,t,rfl,f,m⟩:=p;simp only[a4]at m;simp only[c6]at d;subst m d;rw[eS a.1];refine⟨s,J,T5 (T:= .int .u32) n ?_ a.2 f⟩;intro x i vs k l;split at k
  .obtain⟨u,r,rfl,d,f⟩:=l;simp only[a4]at f;simp only[c6]at d;subst f d;rw[aX k];rfl
  .cases k
 .cases a
def amY(l:xx HF g W lk):∀(T:ET)(x:T.den)(d:E C)(vs:E aT),xv lk T x d=af->a4 g d vs->de HF T x vs:=by
 intro T;induction T with
 |int k=>
  intro x d vs a b
  simp only[xv]at a
  split at a
  .obtain⟨u,r,rfl,i,f⟩:=b;simp only[a4]at f;simp only[c6]at i;simp only[cG,mV]at a;subst f i;rw[a.1,a.2];rfl
  .cases a
 |bool=>
  intro x d vs a b
  simp only[xv]at a
  split at a
  .obtain⟨u,r,rfl,i,f⟩:=b;simp only[a4]at f;simp only[c6]at i;subst f i;rw[eS a];rfl
  .cases a
 |z=>intro x d vs a b;exact T6 l a b
 |q=>
  intro x d vs a b
  simp only[xv,cG]at a
  exact⟨c 2 vs,az 2 vs,(uj 2 vs).symm,T6 l a.1<|b.take 2,T6 l a.2<|b.drop 2⟩
 |sl T s=>
  intro x d vs a b
  simp only[xv]at a
  split at a
  .obtain⟨u,r,rfl,i,f⟩:=b;simp only[a4]at f;subst f;exact⟨u,J,T5 l s a i⟩
  .cases a
 |pr A B m p=>
  intro x d vs a b
  simp only[xv,cG]at a
  exact⟨c A.n vs,az A.n vs,(uj _ vs).symm,m _ _ _ a.1<|b.take _,p _ _ _ a.2<|b.drop _⟩
def T7(f:xx HF g W lk){i d}{v}(a:NS lk i d=af)(b:c6 g i v):c6 ⟨HF,jK⟩ d v:=by
 unfold NS at a;split at a
 .rw[<-eS a];exact b
 .simp only[cG,mV]at a;rw[<-a.1,<-a.2];exact b
 .exact T5 f (amY f _) a b
 .trivial
 .cases a
def T8(i:xx HF g W lk):∀{a b:E C}{vs:E aT},xw lk a b=af->a4 g a vs->a4 ⟨HF,jK⟩ b vs
 |[],[],_,_,f=>f
 |n::a,d::b,_,hm,f=>by simp only[xw,cG]at hm;obtain⟨v,k,rfl,l,m⟩:=f;exact⟨v,k,J,T7 i hm.1 l,T8 i hm.2 m⟩
 |[],_::_,_,hm,_=>by simp[xw]at hm
 |_::_,[],_,hm,_=>by simp[xw]at hm
def abR(f:xx HF g W lk):∀{i k:E (Bool×E C)}{vs:E aT},F' lk i k=af->dy g i vs->dy ⟨HF,jK⟩ k vs
 |[],[],_,_,l=>l
 | (b,cs)::i,(p,ds)::k,_,hm,l=>by
  simp only[F',cG]at hm;let ⟨⟨m,hc⟩,ht⟩:=hm;have m:=eS m;subst m;obtain⟨v,r,rfl,a,n⟩:=l;refine⟨v,r,J,?_,abR f ht n⟩;cases b with
  |true=>let ⟨us,e,a⟩:=a;exact⟨us,e,T8 f hc a⟩
  |false=>
   match cs,ds,hc,a with
   |[c],[d],hc,a=>simp only[xw,cG]at hc;exact T7 f hc.1 a
   |[c],[],hc,_=>simp[xw]at hc
   |[c],_::_::_,hc,_=>simp[xw]at hc
   |[],_,_,a=>exact a.elim
   |_::_::_,_,_,a=>exact a.elim
 |[],_::_,_,hm,_=>by simp[F']at hm
 |_::_,[],_,hm,_=>by simp[F']at hm
def abS(b:xx HF g W lk){x d}{v}(a:C0 lk x d=af)(f:bf g x v):bf ⟨HF,jK⟩ d v:=by
 cases x<;>cases d<;>simp only[C0]at a<;>try cases a
 .exact T7 b a f
 .let ⟨vs,e,h⟩:=f;exact⟨vs,e,T8 b a h⟩
 .let ⟨vs,e,h⟩:=f;exact⟨vs,e,abR b a h⟩
end
def s0(a:G->aw aC):E AV->E AV->Bool
 |[],[]=>af
 |x::xs,b::d=>C0 a x b&&s0 a xs d
 |_,_=>ak
def abT{d:G->aw aC}{f:FH}{g:Gh}{W:World}(i:xx f g W d):∀{xs a:E AV}{vs:E aT},s0 d xs a=af->fD g xs vs->fD ⟨f,jK⟩ a vs
 |[],[],_,_,b=>b
 |x::xs,n::a,_,hm,b=>by simp only[s0,cG]at hm;obtain⟨v,k,rfl,l,m⟩:=b;exact⟨v,k,J,abS i hm.1 l,abT i hm.2 m⟩
 |[],_::_,_,hm,_=>by simp[s0]at hm
 |_::_,[],_,hm,_=>by simp[s0]at hm
def abU{b:G->aw aC}:∀{xs a:E AV},s0 b xs a=af->Z a=Z xs
 |[],[],_=>rfl
 |x::xs,d::a,hm=>by simp only[s0,cG]at hm;simp[abU hm.2]
 |[],_::_,hm=>by simp[s0]at hm
 |_::_,[],hm=>by simp[s0]at hm
section
variable{P:bO}
def T9{g}:∀(vs:E AV)(a:E aT)(i:G)(all:E aT),Z a=Z vs->(∀d,d<Z a->all[i+d]? =a[d]?)->(∀t v,L t (dG i vs)=ae v->bf g v (all.toArray.getD t undef))->fD g vs a:=by
 intro vs;induction vs with
 |nil=>intro a i all hl _ _;exact gA vj
 |cons x vs z=>
  intro a i all hl b n
  cases a with
  |nil=>simp at hl
  |cons u a=>
   refine⟨u,a,J,?_,z a (i+1) all vj ?_ ?_⟩
   .have A:=n i x (by simp[dG,L]);have p:=b 0 ax;simp only[jZ,n9]at p;simpa[p]using A
   .intro d hj;have:=b (d+1) rG;rw[(Y:i+1+d=i+(d+1))];simpa using this
   .intro t v s;refine n t v ?_;have k:∀(l:E AV)(f:G),i<f->∀v,L i (dG f l)=ae v->False:=by
     intro l;induction l with
     |nil=>intro f _ v h;simp[dG,L]at h
     |cons y l m=>
      intro f B v h
      simp only[dG,L]at h
      split at h
      .omega
      .exact m (f+1) Y v h
    simp only[dG,L];split
    .rename_i e;subst e;exact(k vs (i+1) Y v s).elim
    .exact s
def Ga:aC->aC
 | .box a _ cs=> .fz a cs
 |b=>b
def abV b:(Ga b).al=b.al:=by cases b<;>rfl
open Classical in
def amZ{f}{vs A}{a7}(cP:aq P f A a7)(hm:cO A=[]){fm Q}(D:E G)(hD:∀d,L d Q=if d∈D then(L d fm).map Ga else L d fm){lk:G->aw aC}(qC:∀d b,lk d=ae b->d∈D/\L d fm=ae b)(abW:s0 lk vs A=af) k:CX P f vs fm k a7 Q k:=by
 refine⟨cP.call,aN _,?_⟩;intro F g W us hn lV p;have yP:fD g vs us:=T9 vs us 0 us lV (λj hj=>ax) (λt v ht=>p.dH t v<|by simp[St.kn,ht]);have tV:∀d,St.kn ⟨dG 0 vs,fm,0,[]⟩ (.m d)=(L d fm).map .b:=λ_=>rfl
 let B:G->Prop:=λb=>∃d X sz c,d∈D/\L d fm=ae (.box X sz c)/\cF (g.γ d)=ae b
 let q:FH:=λb o=>if B b then W.cell? ⟨b,o,none⟩else g.H b o
 have hBz:∀b,B b->(∀o,g.H b o=none)/\F.N b:=by rintro b ⟨d,X,sz,c,_,hl,K⟩;let ⟨b',ws,rest,O,e2,e3,e4,e5,_⟩:=p.cE d (.box X sz c) AN;rw[K]at O;cases O;exact⟨e5,e4⟩
 have Y:cD g.H q:=by
  intro b o v hv;by_cases e:B b
  .rw[(hBz b e).1]at hv;cases hv
  .simp only[q,e,bV];exact hv
 have ok:xx q g W lk:=by
  refine⟨Y,λd X c hl=>?_⟩;rcases hl with⟨sz,hl⟩|hl
  .let ⟨l,hl⟩:=qC d _ hl;let ⟨b,ws,rest,O,e2,e3,e4,e5,_⟩:=p.cE d (.box X sz c) AN;have hB:B b:=⟨d,X,sz,c,l,hl,O⟩;exact⟨b,ws,rest,O,λo=>by simp only[q,hB,cr],e2,e3⟩
  .let ⟨l,hl⟩:=qC d _ hl;let ⟨b,ws,rest,O,e2,e3,e4,e5⟩:=p.cE d (.fz X c) AN;have R:¬B b:=by rintro⟨I,E',sz,cs',abY,C,S⟩;have:=p.inj d I (.fz X c) (.box E' sz cs') b AN (by rw[tV,C];rfl) O S;subst this;rw[hl]at C;cases C
   exact⟨b,ws,rest,O,λo=>by simp only[q,R,bV,e5];simp[Iq,e2],e2,e3⟩
 have U:=abT ok abW yP;have vG:Sub q W:=by
  intro b o v hv;by_cases e:B b
  .simp only[q,e,cr]at hv;exact hv
  .simp only[q,e,bV]at hv;exact p.sub b o v hv
 have hlen:=abU abW;have h2:aM F (·<k) (St.kn ⟨dG 0 A,Q,0,[]⟩) ⟨q,g.γ⟩ W (nC us):=by
  have hM:∀d b,St.kn ⟨dG 0 A,Q,0,[]⟩ (.m d)=ae (.b b)->∃i,L d fm=ae i/\((d∉D/\b=i)\/(d∈D/\b=Ga i)):=by
   intro d b K;have e:St.kn ⟨dG 0 A,Q,0,[]⟩ (.m d)=(L d Q).map .b:=rfl;rw[e,hD]at K;split at K
   .rename_i hd;cases hl:L d fm with
    |none=>rw[hl]at K;cases K
    |some i=>rw[hl]at K;cases K;exact⟨i,J,.inr ⟨hd,J⟩⟩
   .rename_i kd;simp only[bS]at K;let ⟨x,M,he⟩:=K;cases he;exact⟨_,M,.inl ⟨kd,J⟩⟩
  have w:∀d b,St.kn ⟨dG 0 A,Q,0,[]⟩ (.m d)=ae (.b b)->∃i,L d fm=ae i/\b.al=i.al:=by
   intro d b K;let ⟨i,hl,cP⟩:=hM d b K;refine⟨i,hl,?_⟩;rcases cP with⟨_,rfl⟩|⟨_,rfl⟩
   .rfl
   .exact abV i
  refine⟨p.size,p.defers,?_,?_,?_,?_,?_,vG,p.below,p.le.trans Y,?_,p.fB⟩
  .intro t v ht;simp only[St.kn,bS]at ht;let ⟨x,M,he⟩:=ht;cases he;let ⟨_,u,hu,hr,w⟩:=lT A us 0 U t v M;have yI:us[t]? =ae u:=vr;simp only[nC,lR,vg,yI,sV];refine hr.iN ?_ (cD.refl _) g.γ;refine S6.2<|λd l=>?_;have:=w d l;rw[hm]at this;cases this
  .intro d b K;let ⟨i,hl,am1⟩:=hM d b K;have V:St.kn ⟨dG 0 vs,fm,0,[]⟩ (.m d)=ae (.b i):=AN;have AG:=p.cE d i V;have z:(∀X sz c,i= .box X sz c->d∉D)->gL F.N ⟨q,g.γ⟩ W d i:=by
    intro Z;refine AG.vM (known:=(·<k)) ⟨Y,λ_ _=>rfl⟩ (p.dI d _ V) (λj hj=>p.al _ _ V j hj)<|λkk lU=>⟨J,λo=>?_⟩;have R:¬B kk:=by rintro⟨I,X,sz,c,abY,C,S⟩;have:=p.inj d I i (.box X sz c) kk V (by rw[tV,C];rfl) lU S;subst this;rw[hl]at C;cases C;exact Z X sz c J abY
    simp only[q,R,bV]
   rcases am1 with⟨kd,rfl⟩|⟨hd,rfl⟩
   .exact z<|λ_ _ _ _=>kd
   .cases i with
    |box X sz c=>
     let ⟨b,ws,rest,O,e2,e3,e4,e5,_⟩:=AG
     have hB:B b:=⟨d,X,sz,c,hd,hl,O⟩
     exact⟨b,ws,rest,O,e2,a4.mono (known:=(·<k)) (g:=g) (g':=⟨q,g.γ⟩) ⟨Y,λ_ _=>rfl⟩ (λj hj=>p.al _ _ V j hj) e3,e4,λo=>by simp only[q,hB,cr];simp[Iq,e2]⟩
    |vec X T xs=>exact z<|λ_ _ _ e=>xy
    |dS f a b=>exact z<|λ_ _ _ e=>xy
    |fz X c=>exact z<|λ_ _ _ e=>xy
    |mp ka va xs=>exact z<|λ_ _ _ e=>xy
    |it m n seen=>exact z<|λ_ _ _ e=>xy
  .intro d I b b' kk K S h1 h2;let ⟨i,hl,_⟩:=hM d b K;let ⟨b1,C,_⟩:=hM I b' S;exact p.inj d I i b1 kk AN (by rw[tV,C];rfl) h1 h2
  .intro key x M d l;cases key with
   |m j=>
    cases x with
    |b b'=>
     let ⟨i,hl,oh⟩:=w j b' M
     have l:d∈b'.al:=l
     rw[oh]at l
     exact p.al (.m j) (.b i) AN d l
    |v v'=>simp only[St.kn,bS]at M;let ⟨_,_,he⟩:=M;cases he
   |s t=>
    simp only[St.kn,bS]at M
    let ⟨y,hy,he⟩:=M
    subst he
    let ⟨_,_,_,_,h6⟩:=lT A us 0 U t y hy
    have:=h6 d l
    rw[hm]at this
    cases this
  .intro d x M;cases x with
   |b b'=>let ⟨i,hl,_⟩:=w d b' M;exact p.dI d (.b i) AN
   |v v'=>simp only[St.kn,bS]at M;let ⟨_,_,he⟩:=M;cases he
  .intro b o K Z;have R:¬B b:=by
    intro e;rcases(hBz b e).2 with h1|h1
    .omega
    .exact Z h1
   simp only[q,R,bV];exact p.fresh b o K Z
 exact(amn cP hm Q k).spec F ⟨q,g.γ⟩ W us (by rw[hlen];exact hn) (by rw[hlen];exact lV) h2
end
inductive Rc where
 |no
 |dD (t:Tr) (ms:Ms) (k:G) (a:E G)
 |ig (b:G) (t:Tr) (ms:Ms) (k:G) (a:E G)
 |ret (t:Tr) (ms:Ms) (k:G) (a:E G)
def fh(n:G):G:=if n<=16 then 2 else if n<=64 then 3 else if n<=256 then 4 else if n<=1024 then 5 else 6
def om(dep:G)(vs:E AV):G->Tr->Tr:=lW (motive:=λ_=>G->Tr->Tr) (λ_ t=>t)
 (λv _ a i t=>a (i+1)<|kO (db dep i) v t) vs
def Jw(b:TT)(dep n:G)(t:Tr)(d:Ms):Au->aw AV
 | .tmp a=>(match dK a n with
  |true=>km (db dep a) t
  |false=>none)
 | .cell a ty=>(match dK a n with
  |true=>(match km (db dep a) t with
   |some (.c<|.P id off)=>(match bI id d,pJ b ty with
    |some (.box _ _ cs),ae (sz,f)=>oN cs off sz f
    |_,_=>none)
   |_=>none)
  |false=>none)
def NT(a:TT)(dep n:G)(t:Tr)(b:Ms):E Au->aw (E<|Bool×E C)
 |[]=>ae []
 |x::xs=>(match Jw a dep n t b x with
  |some v=>(match rJ v,NT a dep n t b xs with
   |some s,ae d=>ae<|s::d
   |_,_=>none)
  |none=>none)
def Gb(a:TT)(dep n:G)(t:Tr)(b:Ms):E Au->aw AV
 |[x]=>Jw a dep n t b x
 |xs=>(match NT a dep n t b xs with
  |some d=>ae<|.t d
  |none=>none)
def yQ:G->Mem->E G->Mem->Mem
 |0,_,_,acc=>acc
 |_+1,_,[],acc=>acc
 |f+1,own,id::todo,acc=>match nF id acc with
  |some _=>yQ f own todo acc
  |none=>(match nF id own with
   |some b=>yQ f own (b.al++todo)<|(id,b)::acc
   |none=>yQ f own todo acc)
def C1(k:G)(a:Ms):E G->Bool
 |[]=>af
 |id::b=>(match eL k id with
  |true=>C1 k a b
  |false=>(match bI id a with
   |some _=>C1 k a b
   |none=>ak))
def NU(k:G)(a:Ms):Mem->Bool
 |[]=>af
 | (id,b)::d=>(match eL k id with
  |true=>(match C1 k a b.al with
   |true=>NU k a d
   |false=>ak)
  |false=>ak)
def Gc(k:G)(d a:Ms):E G->Bool
 |[]=>af
 |id::f=>(match bI id a with
  |some b=>(match C1 k d b.al with
   |true=>Gc k d a f
   |false=>ak)
  |none=>Gc k d a f)
def Ua(k:G)(l:Mem):Bool:=lW (motive:=λ_=>Bool) af (λh _ a=>AJ (motive:=λ_=>Bool) ak a<|eL k h.1) l
def AO(a:Mem):Ms->Ms
 |m::b=>(a++m)::b
 |[]=>[a]
def Jx(a:Ms):E G->E G
 |[]=>[]
 |id::d=>(match bI id a with
  |some b=>b.al++Jx a d
  |none=>Jx a d)
def leave(i:TT)(f:Func)(dep:G)(b:Ms)(k:G)(t:Tr)(a:Ms)(l:G)(d:E G):Cr:=match Gb i dep f.ntmps t a f.results.toList with
 |some r=>(match a with
  |own::rest=>(match yQ 1000 own (r.al++Jx rest d) []with
   |g=>(match C1 k b r.al&&NU k b g&&Gc k b rest d&&Ua k own with
    |true=> .ok r (AO g rest) l d
    |false=> .no))
  |[]=> .no)
 |none=> .no
def Jy(a:Ms):G->E G->E G->E G
 |0,_,acc=>acc
 |_+1,[],acc=>acc
 |f+1,id::todo,acc=>match acc.any (iP id)with
  |true=>Jy a f todo acc
  |false=>(match bI id a with
   |some b=>Jy a f (b.al++todo)<|id::acc
   |none=>Jy a f todo acc)
def lkS(D:E G)(b:Ms)(a:G):aw aC:=match D.any (iP a)with
 |true=>bI a b
 |false=>none
def xA:E G->Ms->Ms
 |[],ms=>ms
 |id::a,ms=>(match bI id ms with
  |some (.box b _ cs)=>xA a<|rU id (.fz b cs) ms
  |_=>xA a ms)
abbrev yR:=G->G->G->Code->Tr->Ms->G->E G->Rc
def uz(P:bO)(l:TT)(g:jk->E AV->Ms->aw (E AV×AV))(body:yR):nG:=λf vs a k=>
 match g f vs a with
 |some (d,r)=>(match Jy a 200 (cO vs) []with
  |D=>(match s0 (lkS D a) vs d&&(cO d).isEmpty&&Gc k a (xA D a) D with
   |true=> .ok r (xA D a) k D
   |false=> .no))
 |none=>(match P.funcs[f]? with
  |some fn=>(match fn.body with
   |some c=>(match fn.name != "runtime.NumGoroutine" &&eL (Z vs) fn.ntmps&&eL fn.ntmps 4096 with
    |true=>(match body (fh fn.ntmps) fn.ntmps k c (om (fh fn.ntmps) vs 0 .e) ([]::a) k []with
     | .dD t b i wl=>leave l fn (fh fn.ntmps) a k t b i wl
     | .ret t b i wl=>leave l fn (fh fn.ntmps) a k t b i wl
     |_=> .no)
    |false=> .no)
   |none=> .no)
  |none=> .no)
def am2(d:yR)(dep n f:G)(x g:Code)(t:Tr)(i:Ms)(k:G)(l:E G):Rc:=match d dep n f x t i k l with
 | .dD t1 a m b=>d dep n f g t1 a m b
 |r=>r
def am3(a:yR)(dep n d:G)(i:ff)(x l:Code)(t:Tr)(f:Ms)(k:G)(g:E G):Rc:=match jl dep n i with
 |some p=>(match lj t p with
  |some (.c<|.B b)=>(match b with
   |true=>a dep n d x t f k g
   |false=>a dep n d l t f k g)
  |_=> .no)
 |none=> .no
def am4(g:yR)(dep n i:G)(l:G)(x:Code)(t:Tr)(m:Ms)(k:G)(p:E G):Rc:=match g dep n i x t m k p with
 | .ig a t1 b f d=>(match iP a l with
  |true=> .dD t1 b f d
  |false=> .ig a t1 b f d)
 |r=>r
def am5(d:yR)(dep n f:G)(x:Code)(t:Tr)(g:Ms)(k:G)(i:E G):Rc:=match d dep n f x t g k i with
 | .dD t1 a l b=>d dep n f (.loop x) t1 a l b
 |r=>r
def rT:Rs->Rc
 | .ok t1 a d b _=> .dD t1 a d b
 | .no=> .no
def rD(ps:E (G×G)):Rd->Rc
 | .ok t1 a d b fs=>(match FZ fs.reverse ps with
  |true=> .dD t1 a d b
  |false=> .no)
 | .no=> .no
def am6(a:nG)(f:TT)(dep n g:G)(d:E a8)(b:Bool)(t:Tr)(i:Ms)(k:G)(l:E G):Rc:=match NO dep n d b with
 |some (gs,none)=>rT<|xt a f n g gs t i k l
 |some (gs,ae ps)=>rD ps<|yN a f n g gs t i k l []
 |none=> .no
def am7(P:bO)(g:TT)(d:jk->E AV->Ms->aw (E AV×AV))(a:yR)(dep n b:G):Code->Tr->Ms->G->E G->Rc
 | .skip=> .dD
 | .exit id=> .ig id
 | .ret=> .ret
 | .seq x f=>am2 a dep n b x f
 | .cond i x f=>am3 a dep n b i x f
 | .block id x=>am4 a dep n b id x
 | .loop x=>am5 a dep n b x
 | .region _ ops draw=>am6 (uz P g d a) g dep n b ops.toList draw
 |_=>λ_ _ _ _=> .no
def jm(P:bO)(d:TT)(b:jk->E AV->Ms->aw (E AV×AV))(a:G):yR:=NJ (motive:=λ_=>yR)
 (λ_ _ _ _ _ _ _ _=> .no) (λ_ f=>am7 P d b f) a
def s6:Ft->G->Prop
 | .n,_=>False
 | .m rd _,id=>id∈rd
 | .c k _ _,id=>id<k
def oo:Ft->G->Prop
 | .n,_=>False
 | .m _ wr,id=>id∈wr
 | .c k a wl,id=>(id∈wl/\id<k)\/(k<=id/\id<a)
def AP(b d:Ks)(f:Ft):Prop:=(∀a∈b.1,match a with| .s t=>Key.s t∈d.1| .m id=>s6 f id)/\∀a∈b.2,match a with| .s t=>Key.s t∈d.2| .m id=>oo f id
def fN(d:Ms)(k:G):Prop:=∀a b,bI a d=ae b->a<k/\∀j∈b.al,j<k
def eI(dep n:G)(t:Tr)(k:G):Prop:=∀j v,j<n->km (db dep j) t=ae v->∀a∈v.al,a<k
def m8(d a:Ms):Prop:=∀i j b,1<=i->bI j (az i a)=ae b->∃f,bI j (az i d)=ae f
def m8.refl ms:m8 ms ms:=λ_ _ b _ h=>⟨b,h⟩
def m8.trans{a b d}(k:m8 a b)(g:m8 b d):m8 a d:=λi j x f l=>by let ⟨y,m⟩:=g i j x f l;exact k i j y f m
def Ub id b a:m8 a (rU id b a):=by
 intro i j x _ hx;have d:∀(a:Ms)(i:G)(x:aC),bI j (az i<|rU id b a)=ae x->∃y,bI j (az i a)=ae y:=by
  intro a;induction a with
  |nil=>intro i x hx;exact⟨x,hx⟩
  |cons m r f=>
   intro i x hx
   have g:rU id b (m::r)=match nF id m with|some _=>Jl id b m::r|none=>m::rU id b r:=rfl
   cases i with
   |zero=>
    simp only[qx]at hx⊢
    rw[FW]at hx
    split at hx
    .rename_i y k;split at hx
     .rename_i e;subst e;exact⟨y,k⟩
     .exact⟨x,hx⟩
    .exact⟨x,hx⟩
   |succ i=>
    rw[g]at hx
    split at hx
    .exact⟨x,FF⟩
    .exact f i x FF
 exact d a i x hx
def am8 id a:m8 a (vR id a):=by
 intro i j x _ b;have d:∀(a:Ms)(i:G),az i (vR id a)=vR id (az i a):=by
  intro a;induction a with
  |nil=>intro i;simp[vR]
  |cons m r f=>intro i;cases i with
   |zero=>rfl
   |succ i=>simpa[vR]using f i
 rw[d,CS]at b;split at b
 .cases b
 .exact⟨x,b⟩
def am9 k b ms:m8 ms (AL k b ms):=by
 intro i j x f a;obtain⟨i,rfl⟩:∃d,i=d+1:=⟨i-1,Y⟩;cases ms with
 |nil=>exact⟨x,by simpa[AL]using a⟩
 |cons m r=>exact⟨x,by simpa[AL]using a⟩
structure xB(P:bO)(i:nG):Prop where
 ok:∀{f vs ms k r d g wl},i f vs ms k= .ok r d g wl->fN ms k->(∀a∈cO vs,a<k)->
  CX P f vs ms.flatten k r d.flatten g/\(∀a∈r.al,k<=a\/∃b,bI a ms=ae b)/\(∀a b,bI a d=ae b->bI a ms=ae b\/∀l∈b.al,k<=l\/∃b,bI l ms=ae b)/\
   (∀a,a<k->a∉wl->bI a d=bI a ms)/\(∀a b,bI a d=ae b->k<=a\/∃m,bI a ms=ae m)/\fN d g/\(∀a∈r.al,a<g)/\m8 ms d
section
variable{P:bO}{tt:TT}{dep n:G}{t:Tr}{ms:Ms}{k:G}
def fN.le{a}(d:fN ms k)(f:k<=a):fN ms a:=λg b i=>⟨fY (d g b i).1 f,λj l=>fY ((d g b i).2 j l) f⟩
def eI.le{b}(d:eI dep n t k)(f:k<=b):eI dep n t b:=λj v g i l a=>fY (d j v g i l a) f
def eI.set(b:eI dep n t k)(m:n<=4^dep){d}(p:d<n){v}(f:∀g∈v.al,g<k):eI dep n (kO (db dep d) v t) k:=by
 intro j u i a;by_cases e:d=j
 .subst e;rw[Jk]at a;cases a;exact f
 .rw[FP _ _ _ _ FR (λl=>e<|CQ dep Y Y l)]at a;exact b j u i a
def eI.del(b:eI dep n t k)(i:n<=4^dep){d}(l:d<n):eI dep n (FO (db dep d) t) k:=by
 intro j u f a;by_cases e:d=j
 .subst e;rw[TN]at a;cases a
 .rw[TO _ _ _ FR (λg=>e<|CQ dep Y Y g)]at a;exact b j u f a
def AQ{a b}(d:dK a b=af):a<b:=by simpa[ux]using d
def lZ{m:Mem}{x}{p:Pd}(a:jl dep n x=ae p){v}(b:lj t p=ae v):(bu dep n t m).ev x=ae v:=by
 cases x with
 |tmp j=>
  simp only[jl]at a
  split at a
  .rename_i d;cases a;simp only[St.ev,bu,uw,q<|AQ d];exact b
  .cases a
 |const u=>simp only[jl,ar]at a;subst a;exact b
 |func f=>simp only[jl,ar]at a;subst a;exact b
 |global g=>simp[jl]at a
def NV{m:Mem}:∀{xs:E ff}{ps:E Pd},yM dep n xs=ae ps->∀{vs:E AV},yL t ps=ae vs->kh (bu dep n t m) xs=ae vs
 |[],ps,a,vs,he=>by simp only[yM,ar]at a;subst a;exact he
 |x::xs,ps,a,vs,he=>by
  simp only[yM]at a;split at a
  .rename_i p d f g;cases a;have i:yL t (p::d)=match lj t p with
    |some v=>(match yL t d with|some vs=>ae (v::vs)|none=>none)
    |none=>none:=rfl
   rw[i]at he;split at he
   .rename_i v l;split at he
    .rename_i s b;cases he;simp only[kh,lZ f l,NV g b]
    .cases he
   .cases he
  .cases a
def am'{m:Mem}(l:eI dep n t k){x}{p:Pd}(a:jl dep n x=ae p){v}(d:lj t p=ae v):∀i∈v.al,i<k:=by
 cases x with
 |tmp j=>
  simp only[jl]at a
  split at a
  .rename_i s;cases a;exact l j v (AQ s) d
  .cases a
 |const u=>
  simp only[jl,ar]at a;subst a
  have:EL u=v:=by simpa[lj]using d
  subst this
  intro i b
  cases u<;>simp[EL,AV.al,C.al]at b
 |func f=>
  simp only[jl,ar]at a;subst a
  have:AV.c (.V<|.func (.func f) #[] #[])=v:=by simpa[lj]using d
  subst this
  intro i b
  simp[AV.al,C.al]at b
 |global g=>simp[jl]at a
def NW(g:eI dep n t k):∀{xs:E ff}{ps:E Pd},yM dep n xs=ae ps->∀{vs:E AV},yL t ps=ae vs->∀d∈cO vs,d<k
 |[],ps,b,vs,he=>by
  simp only[yM,ar]at b;subst b;have:vs=[]:=by simpa[yL]using he.symm
  subst this;simp[cO]
 |x::xs,ps,b,vs,he=>by
  simp only[yM]at b;split at b
  .rename_i p i l s;cases b;have e:yL t (p::i)=match lj t p with
    |some v=>(match yL t i with|some vs=>ae (v::vs)|none=>none)
    |none=>none:=rfl
   rw[e]at he;split at he
   .rename_i v u;split at he
    .rename_i z f;cases he;intro d a;simp only[cO,bg]at a;rcases a with a|a
     .exact am' (m:=[]) g l u d a
     .exact NW g s f d a
    .cases he
   .cases he
  .cases b
def C2(f:cw P tt=af){a:a8}(g:a.guard=none){d:G}(l:a.dst=ae d)(b:d<n)(u:n<=4^dep){m:Mem}{v}{p}(x:vi tt (bu dep n t m) a.op=ae (v,p))(z:p.h):
  g6 P n #[a] 0 (bu dep n t m) (bu dep n (kO (db dep d) v t) m) k (k+1) (bH a.op.operands.toList,[.s d]):=
 g6.nD (Mv f (ops:= #[a]) (i:=0) J g l b x z k) (sM _ _) (FT dep n t m d v u b) CP nE
def ab0(f:cw P tt=af){a:a8}(g:a.guard=none){d:G}(l:a.dst=ae d)(b:d<n)(u:n<=4^dep){m:Mem}{v}{p}(x:FA tt (bu dep n t m) a.op=ae (v,p))(z:p.h):
  g6 P n #[a] 0 (bu dep n t m) (bu dep n (kO (db dep d) v t) m) k (k+1) (bH a.op.operands.toList,[.s d]):=
 g6.nD (aao f (ops:= #[a]) (i:=0) J g l b x z k) (sM _ _) (FT dep n t m d v u b) CP nE
def ana(f:cw P tt=af){a:a8}(g:a.guard=none){d:G}(l:a.dst=ae d)(b:d<n)(u:n<=4^dep){m:Mem}{v}{p}(x:xq tt (bu dep n t m) a.op=ae (v,p))(z:p.h):
  g6 P n #[a] 0 (bu dep n t m) (bu dep n (kO (db dep d) v t) m) k (k+1) (bH a.op.operands.toList,[.s d]):=
 g6.nD (TL f (ops:= #[a]) (i:=0) J g l b x z k) (sM _ _) (FT dep n t m d v u b) CP nE
def anb(z:cw P tt=af){g:a8}(hg:g.guard=none){d:G}(hd:g.dst=ae d)(l:d<n)(hn:n<=4^dep){A}{x}(B:g.op= .load A x){v u}{f}(hx:(bu dep n t ms.flatten).ev x=ae v)(a:TY tt ms A v=ae (u,f)):
  g6 P n #[g] 0 (bu dep n t ms.flatten) (bu dep n (kO (db dep d) u t) ms.flatten) k (k+1) (bH [x]++cV f,[.s d]):=by
 have c:Ip tt (bu dep n t ms.flatten) A v=ae (u,.t,f):=by
  unfold TY at a;unfold Ip;split at a
  .cases a
  .rename_i sz q C D;have b:sz≠0:=C;simp only[D];split at a
   .rename_i H K;have e:L H (bu dep n t ms.flatten).mem=bI H ms:=kp H ms;simp only[e];split at a
    .rename_i E r j N;simp only[N];split at a
     .rename_i y m;cases a;simp only[TX m (λe=>aJ e b)]
     .cases a
    .rename_i E j N;simp only[N];split at a
     .rename_i y m;cases a;simp only[TX m (λe=>aJ e b)]
     .cases a
    .cases a
   .rename_i T e K;split at a
    .rename_i y m;cases a;simp only[TX m (λe=>aJ e b)]
    .cases a
   .cases a
  .cases a
 refine g6.nD (ZI z (ops:= #[g]) (i:=0) J hg hd l B hx c M k) ?_ (FT dep n t ms.flatten d u hn l) ?_ nE
 .intro W Q;rcases bg.1 Q with h|h
  .exact eC _ _ W h
  .exact k9 _ _ W h
 .intro p X;simp only[dz,fL,bg]at X⊢;rcases X with h|h
  .exact .inl<|eP (bu dep n t ms.flatten) [x] p MI
  .exact .inr<|kg _ _ p h
def anc(D:cw P tt=af){u}(hg:u.guard=none)(hd:u.dst=none){H:TypeId}{x N}(Q:u.op= .store H x N){v T}{f}{b}{p}(W:(bu dep n t ms.flatten).ev x=ae v)(hy:(bu dep n t ms.flatten).ev N=ae T)(a:TZ tt ms H v T=ae (f,b,p)):
  g6 P n #[u] 0 (bu dep n t ms.flatten) (bu dep n t (rU f b ms).flatten) k (k+1) (bH [x,N]++cV [f],[.m f])/\(∃s,bI f ms=ae s/\∀d∈b.al,d∈s.al\/d∈b8 p):=by
 have B:Is tt (bu dep n t ms.flatten) H v T=ae (f,b)/\∃s,bI f ms=ae s/\∀d∈b.al,d∈s.al\/d∈b8 p:=by
  unfold TZ at a;unfold Is;split at a
  .rename_i sz O g z F C G;simp only[C,G];have e:L g (bu dep n t ms.flatten).mem=bI g ms:=kp g ms;simp only[e];unfold abv at a;split at a
   .rename_i E R r I;split at a
    .rename_i l;simp only[cG]at l;split at a
     .rename_i x W;cases a;obtain⟨S,rfl⟩:=abt p z r x W;have A:Z p=sz:=lX l.1;simp only[I];rw[q ⟨A,Y,abu l.2⟩];exact⟨J,_,J,λd M=>EY r p z d M⟩
     .cases a
    .cases a
   .cases a
  .cases a
 refine⟨?_,B.2⟩
 let ⟨B,s,K,_⟩:=B
 refine g6.nD (ZL D (ops:= #[u]) (i:=0) J hg hd Q W hy B k) ?_ ?_ ?_ nE
 .intro X c;rcases bg.1 c with h|h
  .rcases bg.1 h with h|h
   .exact eC _ _ X h
   .exact eC _ _ X h
  .exact k9 _ _ X h
 .refine abf dep n t ms.flatten _ _ (λd=>?_)<|λd=>yp;rw[kp,FW,K];simp only[bs,aE,Key.m.injEq];by_cases e:f=d
  .simp[e]
  .simp[e,bu,St.kn,kp]
 .exact CM
end
def AR:∀{l:E ff}{a:Key},a∈bH l->∃f,a= .s f
 |[],a,b=>by simp[bH]at b
 | .tmp f::d,a,b=>by simp only[bH,b9]at b;exact b.elim (λg=>⟨f,g⟩) AR
 | .const _::d,a,b=>AR (l:=d) (by simpa[bH]using b)
 | .func _::d,a,b=>AR (l:=d) (by simpa[bH]using b)
 | .global _::d,a,b=>AR (l:=d) (by simpa[bH]using b)
def Gd{b:G}:∀{l:E ff},b∈slotsOf l↔Key.s b∈bH l
 |[]=>by simp[slotsOf,bH]
 | .tmp i::a=>by simp[slotsOf,bH,Gd (l:=a)]
 | .const _::a=>by simp[slotsOf,bH,Gd (l:=a)]
 | .func _::a=>by simp[slotsOf,bH,Gd (l:=a)]
 | .global _::a=>by simp[slotsOf,bH,Gd (l:=a)]
section
variable{P:bO}{tt:TT}{dep n:G}{t:Tr}{ms:Ms}{k:G}
def ab1:∀{l:E G}{b:E (G×E D4)},F1 dep n l=ae b->∀x∈b,x.2=db dep x.1/\x.1<n/\x.1∈l
 |[],b,a,x,hx=>by simp only[F1,ar]at a;subst a;cases hx
 |m::p,b,a,x,hx=>by
  simp only[F1]at a;split at a
  .rename_i l d f;cases a;rcases b9.1 hx with rfl|hx
   .exact⟨J,AQ d,ax⟩
   .let ⟨g,h2,i⟩:=ab1 f x hx;exact⟨g,h2,by simp[i]⟩
  .cases a
def ab2:∀{sl:E (G×E D4)},(∀x∈sl,x.2=db dep x.1/\x.1<n)->∀{j:G}{v:AV},L j (oX sl t)=ae v->j<n/\km (db dep j) t=ae v
 |[],_,j,v,a=>by simp[oX,L]at a
 |x::b,d,j,v,a=>by
  have g:oX (x::b) t=match km x.2 t with|some v=>(x.1,v)::oX b t|none=>oX b t:=rfl
  rw[g]at a;let ⟨i,h2⟩:=d x ax;have f:=ab2 (sl:=b) (λy hy=>d y qD) (j:=j) (v:=v);split at a
  .rename_i u l;simp only[L]at a;split at a
   .rename_i m;cases a;subst m;exact⟨h2,by rw[<-i];exact l⟩
   .exact f a
  .exact f a
def Uc:∀{f:E G}{d:G}{b:aC},L d (uy f ms)=ae b->bI d ms=ae b
 |[],d,b,a=>by simp[uy,L]at a
 |i::g,d,b,a=>by
  have l:uy (i::g) ms=match bI i ms with|some b=>(i,b)::uy g ms|none=>uy g ms:=rfl
  rw[l]at a;split at a
  .rename_i u m;simp only[L]at a;split at a
   .rename_i p;cases a;subst p;exact m
   .exact Uc a
  .exact Uc a
def C3{b:G}:∀{l:E Key},b∈mK l↔Key.m b∈l
 |[]=>by simp[mK]
 | .m d::a=>by simp[mK,C3 (l:=a)]
 | .s d::a=>by simp[mK,C3 (l:=a)]
def Ud:∀{l:E Key},wS none l=af->∀a,Key.s a∉l
 |[],_,a=>by simp
 | .m i::d,b,a=>by simp only[wS]at b;simpa using Ud b a
 | .s i::d,b,a=>by simp[wS]at b
def NX{d:G}:∀{l:E Key},wS (ae d) l=af->∀a,Key.s a∈l->a=d
 |[],_,a,hj=>by simp at hj
 | .m i::f,b,a,hj=>by simp only[wS]at b;exact NX b a rG
 | .s i::f,b,a,hj=>by
  simp only[wS]at b;split at b
  .rename_i g;rcases b9.1 hj with p|hj
   .cases p;exact(lX g).symm
   .exact NX b a hj
  .cases b
def NY{a:G}:∀{l:E G},CV a l=af↔a∈l
 |[]=>by simp[CV]
 |x::f=>by
  simp only[CV];cases d:iP x a with
  |true=>simp[(lX d).symm]
  |false=>
   have b:a≠x:=by intro e;subst e;simp[CR]at d
   simp[NY (l:=f),b]
def NZ{d:E G}:∀{l:E Key},rS d l=af->∀a,Key.s a∈l->a∈d
 |[],_,a,hj=>by simp at hj
 | .m i::f,b,a,hj=>by simp only[rS]at b;exact NZ b a rG
 | .s i::f,b,a,hj=>by
  simp only[rS]at b;split at b
  .rename_i g;rcases b9.1 hj with p|hj
   .cases p;exact NY.1 g
   .exact NZ b a hj
  .cases b
def Ue{d f}{g}{b}(l:b<d)(a:b∉CU d f g):b∉g/\b≠f:=by
 unfold CU at a;split at a
 .simp only[b9,not_or]at a;exact⟨a.2,a.1⟩
 .rename_i i;refine⟨a,?_⟩;intro e;subst e;have:dK b d=af:=by simpa[ux]using l
  rw[this]at i;cases i
structure ane(k l:G)(m f:Mem)(g:E G)(ms:Ms)(p:E G)(d:Ms)(i:E G):Prop where
 out:∀a,a∉g->bI a d=bI a ms
 N0:∀a,a∈g->bI a d=L a f
 gone:∀a,a∈g->L a f=none->∃b,L a m=ae b
 log:∀a,a<l->a∉i->a∉p/\bI a d=bI a ms
 C4:∀a b,a<l->bI a d=ae b->∃s,bI a ms=ae s
 wf:fN ms (k+1)->fN d (k+1)
 tl:m8 ms d
def N1{A:G}(N:A<=k){Q l:Mem}:∀{T:E G}{ms:Ms}{B:E G}{u:Ms}{v:E G},CW k A Q l T ms B=ae (u,v)->ane k A Q l T ms B u v
 |[],ms,B,u,v,h=>by
  have:ms=u/\B=v:=by simpa[CW]using h
  obtain⟨rfl,rfl⟩:=this;exact⟨λ_ _=>rfl,λ_ h=>gD,λ_ h=>gD,λ_ _ h=>⟨h,J⟩,λ_ b _ h=>⟨b,h⟩,λh=>h,m8.refl _⟩
 |i::r,ms,B,u,v,h=>by
  have e:CW k A Q l (i::r) ms B=match nF i l with
   |some b=>(match Jp (k+1) b with
    |true=>(match iP i k with
     |true=>CW k A Q l r (AL k b ms) B
     |false=>(match bI i ms with
      |some _=>CW k A Q l r (rU i b ms)<|CU A i B
      |none=>none))
    |false=>none)
   |none=>(match nF i Q with
    |some _=>CW k A Q l r (vR i ms)<|CU A i B
    |none=>none):=rfl
  rw[e]at h;simp only[yK]at h;split at h
  .rename_i b K;split at h
   .rename_i H;split at h
    .rename_i C;have C:i=k:=lX C;have g:=N1 N h;refine⟨?_,?_,?_,?_,?_,?_,(am9 k b ms).trans g.tl⟩
     .intro a d;simp only[b9,not_or]at d;rw[g.out a d.2,Jn,j<|by rw[<-C];exact λe=>d.1 e.symm]
     .intro a d;by_cases hr:a∈r
      .exact g.N0 a hr
      .have:a=i:=by simpa[hr]using d
       subst this;rw[g.out a hr,Jn,q C.symm,K]
     .intro a d D;rcases b9.1 d with rfl|d
      .rw[K]at D;cases D
      .exact g.gone a d D
     .intro a d s;let ⟨p,h2⟩:=g.log a d s;exact⟨p,by rw[h2,Jn,j Y]⟩
     .intro a W d x;let ⟨X,L⟩:=g.C4 a W d x;rw[Jn,j Y]at L;exact⟨X,L⟩
     .intro s;refine g.wf ?_;intro c o f;rw[Jn]at f;split at f
      .rename_i w;cases f;exact⟨Y,abx H⟩
      .exact s c o f
    .split at h
     .rename_i X z;have g:=N1 N h;have m:∀a,bI a (rU i b ms)=if i=a then ae b else bI a ms:=by intro a;rw[FW,z]
      refine⟨?_,?_,?_,?_,?_,?_,(Ub i b ms).trans g.tl⟩
      .intro a d;simp only[b9,not_or]at d;rw[g.out a d.2,m,j<|λe=>d.1 e.symm]
      .intro a d;by_cases hr:a∈r
       .exact g.N0 a hr
       .have:a=i:=by simpa[hr]using d
        subst this;rw[g.out a hr,m,q J,K]
      .intro a d D;rcases b9.1 d with rfl|d
       .rw[K]at D;cases D
       .exact g.gone a d D
      .intro a d s;let ⟨p,h2⟩:=g.log a d s;let ⟨y,F⟩:=Ue d p;exact⟨y,by rw[h2,m,j<|λe=>F e.symm]⟩
      .intro a W d x;let ⟨I,p⟩:=g.C4 a W d x;rw[m]at p;split at p
       .rename_i w;subst w;exact⟨X,z⟩
       .exact⟨I,p⟩
      .intro s;refine g.wf ?_;intro c o f;rw[m]at f;split at f
       .rename_i w;cases f;subst w;exact⟨(s _ _ z).1,abx H⟩
       .exact s c o f
     .cases h
   .cases h
  .rename_i K;split at h
   .rename_i X z;have g:=N1 N h;refine⟨?_,?_,?_,?_,?_,?_,(am8 i ms).trans g.tl⟩
    .intro a d;simp only[b9,not_or]at d;rw[g.out a d.2,CS,j<|λe=>d.1 e.symm]
    .intro a d;by_cases hr:a∈r
     .exact g.N0 a hr
     .have:a=i:=by simpa[hr]using d
      subst this;rw[g.out a hr,CS,q J,K]
    .intro a d D;rcases b9.1 d with rfl|d
     .exact⟨X,z⟩
     .exact g.gone a d D
    .intro a d s;let ⟨p,h2⟩:=g.log a d s;let ⟨y,F⟩:=Ue d p;exact⟨y,by rw[h2,CS,j<|λe=>F e.symm]⟩
    .intro a W d x;let ⟨I,p⟩:=g.C4 a W d x;rw[CS]at p;split at p
     .cases p
     .exact⟨I,p⟩
    .intro s;refine g.wf ?_;intro c o f;rw[CS]at f;split at f
     .cases f
     .exact s c o f
   .cases h
structure Left(i:G)(dep n:G)(t:Tr)(ms:Ms)(k:G)(l:E G)(m:Tr)(a:Ms)(f:G)(g:E G):Prop where
 le:k<=f
 eI:eI dep n m f
 fN:fN a f
 log:∀d,d<i->d∉g->d∉l/\bI d a=bI d ms
 C4:∀d b,d<i->bI d a=ae b->∃p,bI d ms=ae p
 tl:m8 ms a
def vV{d}{v}{i}{l}{f:Ft}{m}{a}{p}{b}{s:Ft}(g:vT d v t ms i l f= .ok m a p b s):m=kO d v t/\a=ms/\p=i/\b=l/\s=f/\∀u∈v.al,u<i:=by
 unfold vT at g;split at g
 .rename_i x;simp only[Rs.ok.injEq]at g;let ⟨z,h2,A,B,C⟩:=g;exact⟨z.symm,h2.symm,A.symm,B.symm,C.symm,amT x⟩
 .cases g
def anf(cC:cw P tt=af){ke}(rP:ke<=k)(hn:n<=4^dep){T:a8}(hg:T.guard=none){d:aw (G×E D4)}(hd:T.dst=d.map (·.1))(Ge:∀x,d=ae x->x.2=db dep x.1/\x.1<n){W}(s7:F1 dep n (slotsOf T.op.operands.toList)=ae W)
  (mC:eI dep n t k) (kQ:fN ms k) {wl}{t'}{xC}{k'}{l3}{f:Ft} (g:T0 tt n ke d W T.op t ms k wl (oX W t) (uy (AM<|oX W t) ms)= .ok t' xC k' l3 f):
  ∃ks,g6 P n #[T] 0 (bu dep n t ms.flatten) (bu dep n t' xC.flatten) k k' ks/\(∀l,Key.s l∈ks.1->l∈slotsOf T.op.operands.toList)/\(∀l,Key.s l∈ks.2->T.dst=ae l)/\(∀a,Key.m a∈ks.1->s6 f a)/\(∀a,Key.m a∈ks.2->oo f a)/\Left ke dep n t ms k wl t' xC k' l3:=by
 have Q:=ab1 s7
 have B:∀u x,St.kn ⟨oX W t,uy (AM<|oX W t) ms,0,[]⟩ u=ae x->(bu dep n t ms.flatten).kn u=ae x:=by
  intro u x M;cases u with
  |s l=>
   simp only[St.kn,bS]at M
   obtain⟨v,hv,rfl⟩:=M
   let ⟨c,O⟩:=ab2 (dep:=dep) (n:=n) (λy hy=>⟨(Q y hy).1,(Q y hy).2.1⟩) hv
   simp[bu,St.kn,uw,c,O]
  |m a=>
   simp only[St.kn,bS]at M
   obtain⟨v,hv,rfl⟩:=M
   simp[bu,St.kn,kp,Uc hv]
 unfold T0 at g
 split at g
 .rename_i V k1 ks hs;split at g
  .rename_i R;simp only[cG]at R;let ⟨⟨Z,H⟩,C5⟩:=R;have Z:k1=k+1:=lX Z;subst Z;split at g
   .rename_i Uf wl2 ha;have hA:=N1 rP ha;rw[<-hd]at hs H;let ⟨rd,wr,F,fS,tV,hle,s8,Jz⟩:=amB cC (λ_ _ _ _ _ _ _ g=>by simp[aby]at g) (o:=T) hg hs;have K:∀u,u∉ks.2->aE wr u=none:=by
     intro u hk;cases X:aE wr u with
     |none=>rfl
     |some x=>exact aJ (Jz u<|Ca<|by simp[qi,X]) hk
    have S:∀a,(L a Uf.flatten).map Info.b=bs (bu dep n t ms.flatten).kn wr (.m a):=by
     intro a;rw[kp];by_cases I:a∈mK ks.2
     .rw[hA.N0 a I];have c:(L a V.mem).map Info.b=bs (St.kn ⟨oX W t,uy (AM<|oX W t) ms,0,[]⟩) wr (.m a):=by rw[<-tV];rfl
      rw[c];simp only[bs];cases X:aE wr (.m a)with
      |some x=>rfl
      |none=>
       simp only
       have O:(L a V.mem).map Info.b=(L a<|uy (AM<|oX W t) ms).map Info.b:=by rw[c];simp only[bs,X];rfl
       cases hm:L a V.mem with
       |none=>
        let ⟨b,hb⟩:=hA.gone a I hm
        rw[hm,hb]at O
        simp at O
       |some b=>
        rw[hm]at O
        simp only[xg]at O
        rw[show St.kn ⟨oX W t,uy (AM<|oX W t) ms,0,[]⟩ (.m a)=ae (Info.b b)from O.symm]
        exact(B (.m a) (.b b) O.symm).symm
     .rw[hA.out a I];simp only[bs,K (.m a)<|λhc=>I<|C3.2 hc];simp[bu,St.kn,kp]
    have hL:∀{t'':Tr},eI dep n t'' (k+1)->Left ke dep n t ms k wl t'' Uf (k+1) wl2:=λhw=>⟨Y,hw,hA.wf<|kQ.le Y,hA.log,hA.C4,hA.tl⟩
    cases d with
    |none=>
     simp only[Rs.ok.injEq]at g
     obtain⟨rfl,rfl,rfl,rfl,rfl⟩:=g
     have N:T.dst=none:=hd
     rw[N]at H
     refine⟨ks,⟨rd,wr,F,λkx r=>B _ _<|fS kx r,?_,hle,s8,Jz⟩,?_,?_,?_,?_,hL<|mC.le Y⟩
     .exact abf dep n t ms.flatten _ wr S<|λl=>K _<|Ud H l
     .intro l A;let ⟨x,M,e⟩:=kf.1<|NZ C5 l A;rw[<-e];exact(Q x M).2.2
     .intro l A;exact aJ A<|Ud H l
     .intro a z;exact C3.2 z
     .intro a z;exact C3.2 z
    |some x=>
     let ⟨U,dp⟩:=x
     let ⟨C,D⟩:=Ge (U,dp) J
     simp only at C D
     have N:T.dst=ae U:=hd
     rw[N]at H
     simp only at g
     split at g
     .rename_i v hv;obtain⟨rfl,rfl,rfl,rfl,rfl,w⟩:=vV g;subst C;refine⟨ks,⟨rd,wr,F,λkx r=>B _ _<|fS kx r,?_,hle,s8,Jz⟩,?_,?_,?_,?_,hL<|(mC.le Y).set hn D w⟩
      .funext u;cases u with
       |m a=>exact S a
       |s l=>
        rw[FQ]
        simp only
        by_cases e:l=U
        .subst e;rw[q D,Jk];have c:bs (St.kn ⟨oX W t,uy (AM<|oX W t) ms,0,[]⟩) wr (.s l)=ae (.v v):=by rw[<-tV];simp[St.kn,hv]
         simp only[bs]at c⊢;cases X:aE wr (.s l)with
         |some y=>rw[X]at c;simp only at c⊢;rw[c];rfl
         |none=>rw[X]at c;simp only at c⊢;rw[B _ _ c];rfl
        .have nB:aE wr (.s l)=none:=K _<|λhc=>e<|NX H l hc;simp only[bs,nB,bu,St.kn,uw];by_cases A:l<n
         .rw[q A,q A,FP _ _ _ _ FR<|λe'=>e (CQ dep Y Y e').symm]
         .rw[j A,j A]
      .intro l A;let ⟨x,M,e⟩:=kf.1<|NZ C5 l A;rw[<-e];exact(Q x M).2.2
      .intro l A;rw[N,NX H l A]
      .intro a z;exact C3.2 z
      .intro a z;exact C3.2 z
     .cases g
   .cases g
  .cases g
 .cases d with
  |none=>cases g
  |some x=>
   let ⟨U,dp⟩:=x
   let ⟨C,D⟩:=Ge (U,dp) J
   simp only at C D
   subst C
   have N:T.dst=ae U:=hd
   dsimp only at g
   unfold NH at g
   split at g
   .rename_i v p he;split at g
    .rename_i AS;obtain⟨rfl,rfl,rfl,rfl,rfl,w⟩:=vV g;have F:=TL (P:=P) cC (ops:= #[T]) (i:=0) J hg N D he (FU AS) k;refine⟨(bH T.op.operands.toList,[.s U]),g6.nD F (λkx r=>B _ _<|sM _ _ kx r) (FT dep n t _ U v hn D) CP nE,?_,?_,?_,?_,⟨Y,(mC.le Y).set hn D w,kQ.le Y,λ_ _ g=>⟨g,J⟩,λ_ b _ g=>⟨b,g⟩,m8.refl _⟩⟩
     .intro l A;exact Gd.2 A
     .intro l A;simp only[iM,Key.s.injEq]at A;rw[N,A]
     .intro a z;let ⟨l,A⟩:=AR z;cases A
     .intro a z;simp at z
    .cases g
   .cases g
end
end Go.El
end
