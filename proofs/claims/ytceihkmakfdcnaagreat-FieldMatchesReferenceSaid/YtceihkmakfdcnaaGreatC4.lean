/- Own work; no condition. -/
import Derived.Test.YtceihkmakfdcnaaGreatC3
set_option linter.all false
set_option maxHeartbeats 16000000
set_option maxRecDepth 100000
noncomputable section
open Array renaming replicate->sD
open Bool renaming true->ae,false->ah,rec->Bm
open Go renaming Operand->fE,FuncId->jB,Program->bW,Oper->a8,ResultVar->A9,Value->aT
open Go.El renaming iJ->o,jz->w
open Go.Instr renaming build->Jq,index->Oo
open Go.Result renaming andThen->eo
open Go.Sem renaming run_bind->dH
open Go.World renaming cell?->Jh
open Int renaming toNat->af
open List renaming length->Z,rec->mh,drop->az,take->r
open Nat renaming ble->fa,beq->jk,blt->dZ,rec->Oz
open Option renaming some->ad
open _root_ renaming Nat->G,Option->aw,List->E
namespace Go.El
open Go Go.RowKit
def aca(i:TT)(k d:G)(x f:fE)(l n:G)(a:St):aw (St×G×Ks):=match Bk i l n with
 |some (_,g)=>(match a.ev x,a.ev f with
  |some (.c<|.L id off len _),ad p=>(match we a g.size p,o id a.mem with
   |some (m,cs,is),ad (.box t u b)=>if cs.all lO=ae/\m<=len/\off+m*g.size<=Z b then
     ad (⟨jt d (.c<|.I .i64 m) a.sl,jt id (.box t u<|cR b cs off) a.mem,a.nx,a.gd⟩,k+1,(bN [x,f]++da (id::is),[.s d,.m id]))else none
   |_,_=>none)
  |_,_=>none)
 |none=>none
def acb(i:TT)(k d:G)(t:G)(x l:fE)(f:St):aw (St×G×Ks):=match f.ev x,f.ev l,o t i with
 |some (.c<|.I _ a),ad (.c<|.I _ b),ad n=>(match n.kind with
  | .sl E=>(match o E i with
   |some g=>if a=b/\0<=a/\0<g.size/\fa (af a*g.bytes) 16777216=ae/\fa (af a) 16777216=ae then
     ad (⟨jt d (.c<|.L k 0 (af a)<|ad<|af a) f.sl,(k,.box E 0<|Ge (g.zero.map ZV.qP)<|af a)::f.mem,f.nx,f.gd⟩,k+1,(bN (Op.makeSlice t x l).operands.toList,[.s d,.m k]))else none
   |none=>none)
  |_=>none)
 |_,_,_=>none
def acd(i:TT)(k d:G)(t a:G)(b:Array (G×fE))(f:St):aw (St×G×Ks):=match xP i f t a b.toList with
 |some (E,g,cs)=>if 0<g.size/\fa (a*g.size) 16777216=ae then
   ad (⟨jt d (.c<|.L k 0 a<|ad a) f.sl,(k,.box E 0 cs)::f.mem,f.nx,f.gd⟩,k+1,(bN (Op.buildSlice t a b).operands.toList,[.s d,.m k]))else none
 |none=>none
def ace(k d:G)(f:jB)(first a:Array fE)(b:St):aw (St×G×Ks):=match uZ b first.toList,uZ b a.toList with
 |some fs,ad cs=>ad (⟨jt d (.c<|.X k) b.sl,(k,.eB f fs cs)::b.mem,b.nx,b.gd⟩,k+1,(bN<|first.toList++a.toList,[.s d,.m k]))
 |_,_=>none
def J0(a:TT)(t:G):aw (TI×TI):=match o t a with
 |some b=>(match b.kind with
  | .map kt d=>(match o kt a,o d a with
   |some f,ad g=>ad (f,g)
   |_,_=>none)
  |_=>none)
 |none=>none
def acf{b}{t}{i k}(a:J0 b t=ad (i,k)):∃d kt f,o t b=ad d/\d.kind= .map kt f/\o kt b=ad i/\o f b=ad k:=by
 unfold J0 at a;split at a
 .rename_i d g;split at a
  .rename_i kt f l;split at a
   next m n p s=>cases a;exact⟨d,kt,f,g,l,p,s⟩
   .cases a
  .cases a
 .cases a
def acg(b:TT)(k d:G)(t:G)(a:St):aw (St×G×Ks):=match J0 b t with
 |some (f,g)=>ad (⟨jt d (.c<|.X k) a.sl,(k,.mp f.agg g.agg [])::a.mem,a.nx,a.gd⟩,k+1,([],[.s d,.m k]))
 |none=>none
def Oh(a:IntKind):TK->Bool
 | .int b=>decide<|a=b
 |_=>ah
def ach(g:TT)(k d:G)(t:G)(x f:fE)(i:Bool)(a:St):aw (St×G×Ks):=match J0 g t,a.ev x,a.ev f with
 |some (l,b),ad (.c<|.X id),ad (.c<|.I q m)=>(match Oh q l.kind,o id a.mem with
  |true,ad (.mp ah n xs)=>(match n==b.agg,u5 ah q [m] xs with
   |true,ad r=>(match Du i b.agg (r.getD<|b.zero.map ZV.qP) r.isSome with
    |some v=>ad (⟨jt d v a.sl,a.mem,a.nx,a.gd⟩,k+1,(bN [x,f]++da [id],[.s d]))
    |none=>none)
   |_,_=>none)
  |_,_=>none)
 |_,_,_=>none
def aci(i:TT)(k:G)(t:G)(x f z:fE)(a:St):aw (St×G×Ks):=match J0 i t,a.ev x,a.ev f,a.ev z with
 |some (l,_),ad (.c<|.X id),ad (.c<|.I q m),ad u=>(match Oh q l.kind,o id a.mem,sj u with
  |true,ad (.mp ah g xs),ad (b,vc)=>(match g==b,u6 ah q [m] [.I q m] vc xs with
   |true,ad d=>ad (⟨a.sl,jt id (.mp ah g d) a.mem,a.nx,a.gd⟩,k+1,(bN [x,f,z]++da [id],[.m id]))
   |_,_=>none)
  |_,_,_=>none)
 |_,_,_,_=>none
def UG(l:JX)(g:TT)(n k:G)(m:aw G)(op:Op)(a:St):aw (St×G×Ks):=match m with
 |none=>(match op with
  | .mapUpdate t x y z=>aci g k t x y z a
  |op=>(match FZ g n k none op a with
   |some (i,p,u)=>if p.b=ae then ad (pC ah ae i,k+1,u)else none
   |none=>none))
 |some d=>if d<n then(match op with
  | .call ⟨.value A,args,_⟩=>UA l k d A args.toList a
  | .call ⟨.builtin .append,⟨[x,y]⟩,⟨[t1,t2]⟩⟩=>Uy g n k d x y t1 t2 a
  | .call ⟨.builtin .copy,⟨[x,y]⟩,⟨[t1,t2]⟩⟩=>aca g k d x y t1 t2 a
  | .makeSlice t x y=>acb g k d t x y a
  | .buildSlice t len parts=>acd g k d t len parts a
  | .makeFunc (.func f) first caps=>ace k d f first caps a
  | .makeMap t none=>acg g k d t a
  | .lookup t x y ok=>ach g k d t x y ok a
  |op=>(match Gs g a op with
   |some (v,p)=>if p.b=ae then ad (⟨jt d v a.sl,a.mem,a.nx,a.gd⟩,k+1,(bN op.operands.toList,[.s d]))else none
   |none=>(match FZ g n k (ad d) op a with
    |some (i,p,u)=>if p.b=ae then ad (pC ae ah i,k+1,u)else none
    |none=>none)))else none
def acj{a}{k:TK}(b:Oh a k=ae):k= .int a:=by cases k<;>simp[Oh]at b;subst b;rfl
def aoh(a:St) id b:St.kn ⟨a.sl,jt id b a.mem,a.nx,a.gd⟩=bw a.kn [(.m id,ad<|.b b)]:=by
 funext k;cases k with
 |s t=>simp[St.kn,bw,aD]
 |m j=>
  simp[St.kn,bw,aD,qm]
  by_cases e:id=j<;>simp[e]
def ack{a}{xs:E fE}{b}:∀d∈xs.flatMap (cQ a)++fZ a b,a.kn d.1=ad d.2:=by
 intro d f;rcases bl.1 f with h|h
 .obtain⟨x,_,h⟩:=js.1 h;exact eQ a x d h
 .exact ly a b d h
def acm{d}{xs}{b}:∀a∈dL (xs.flatMap (cQ d)++fZ d b),a∈bN xs++da b:=by intro a f;simp only[dL,gf,bl]at f⊢;exact f.elim (λh=> .inl<|ff d _ a h)<|λh=> .inr<|kE d b a h
section
variable{P:bW}{tt:TT}
def Dw{b}{op:Op}:∀a∈dL (qe b op),a∈bN op.operands.toList:=λa d=>ff b _ a d
def aoi(l:cE P tt=ae){sC:JX}(q6:∀f vs fm k a7 xR k',sC f vs fm k=ad (a7,xR,k')->CX P f vs fm k a7 xR k'){n k}{o}(D:o.guard=none){A st'}{k'}{ks}
  (g:UG sC tt n k o.dst o.op A=ad (st',k',ks)):iy P n #[o] 0 A st' k k' ks:=by
 have H:(#[o]:Array a8)[0]? =ad o:=rfl
 unfold UG at g
 split at g
 .rename_i C;split at g
  .rename_i t x y z i;unfold aci at g;split at g
   .rename_i L M J q m u X N Q hz;split at g
    .rename_i O xs R vc S c hu;split at g
     .rename_i Oi B T;simp at g;obtain⟨rfl,rfl,rfl⟩:=g;obtain⟨ti,kt,vt,U,V,Y,_⟩:=acf X;have B:O=R:=by simpa using B
      subst B;have Z:L.kind= .int q:=acj S;exact .n8 (ab9 l H D C i N Q hz hu U V Y Z c T k) (ack (xs:=[x,y,z])) (aoh A J _) (acm (xs:=[x,y,z])) n9
     .simp at g
    .simp at g
   .simp at g
  .split at g
   .rename_i st1 p Oj e;split at g
    next T=>simp at g;obtain⟨rfl,rfl,rfl⟩:=g;exact .Uw (Nw l H D (by rw[C];exact e)<|Pr.I2 T)<|abY _ _ _
    .simp at g
   .simp at g
 .rename_i d C;split at g
  .rename_i s;split at g
   next cf args kH i=>exact aoa q6 s D C i g
   next x y t1 t2 i=>exact an8 l s D C i g
   .rename_i x y t1 t2 i;unfold aca at g;split at g
    .rename_i E ei hI;split at g
     .rename_i J off len cap vy N Q;split at g
      .rename_i m cs is Eb bz q5 e c;split at g
       next K=>simp at g;obtain⟨rfl,rfl,rfl⟩:=g;exact .n8 (an3 H D C s i (N' l hI) N Q c e K.1 K.2.1 K.2.2 k) GA (abW A d J _ _) Dt n9
       .simp at g
      .simp at g
     .simp at g
    .simp at g
   .rename_i t x y i;unfold acb at g;split at g
    .rename_i k1 a k2 b ti N Q pq;split at g
     .rename_i E j;split at g
      .rename_i ei ny;split at g
       next K=>obtain⟨rfl,h0,w,J1,n6⟩:=K;simp at g;obtain⟨rfl,rfl,rfl⟩:=g;have ea:((af a:G):Int)=a:=xS h0;have:=anF (P:=P) l H D C s i (st:=A) (m:=af a) (by rw[ea];exact N) (by rw[ea];exact Q) pq j ny w (c7 J1) (c7 n6) k;rw[i]at this;exact .n8 this (tF A _) (Gy A d k _ _) Dw n9
       .simp at g
      .simp at g
     .simp at g
    .simp at g
   .rename_i t len parts i;unfold acd at g;split at g
    .rename_i E ei cs F;split at g
     next K=>simp at g;obtain⟨rfl,rfl,rfl⟩:=g;have:=anH (P:=P) l H D C s i K.1 (c7 K.2) F k;rw[i]at this;exact .n8 this (tF A _) (Gy A d k _ _) Dw n9
     .simp at g
    .simp at g
   .rename_i f first caps i
    unfold ace at g;split at g
    next fs cs hf K=>simp at g;obtain⟨rfl,rfl,rfl⟩:=g;refine .n8 (abO H D C s i hf K k) ?_ (Gy A d k _ _) (λI j=>ff A _ I j) n9;intro kx W;let ⟨x,_,g⟩:=js.1 W;exact eQ A x kx g
    .simp at g
   .rename_i t i;unfold acg at g;split at g
    next L M X=>simp at g;obtain⟨rfl,rfl,rfl⟩:=g;exact .n8 (ab7 H D C s i _ _ k) (λkx W=>by cases W) (Gy A d k _ _) (λI j=>by cases j) n9
    .simp at g
   .rename_i t x y ok i;unfold ach at g;split at g
    .rename_i L M J q m X N Q;split at g
     .rename_i O xs S c;split at g
      .rename_i a7 B hr;split at g
       .rename_i v F;simp at g;obtain⟨rfl,rfl,rfl⟩:=g;obtain⟨ti,kt,vt,U,V,Y,e4⟩:=acf X;have B:O=M.agg:=by simpa using B
        subst B;exact .n8 (ab8 l H D C s i N Q U V Y (acj S) e4 c hr F k) (ack (xs:=[x,y])) (Ux A d _) (acm (xs:=[x,y])) n9
       .simp at g
      .simp at g
     .simp at g
    .simp at g
   .split at g
    .rename_i v p F;split at g
     next T=>simp at g;obtain⟨rfl,rfl,rfl⟩:=g;exact .n8 (abE l H D C s F (Pr.I2 T) k) (tF A _) (Ux A d _) Dw n9
     .simp at g
    .split at g
     .rename_i st1 p Oj e;split at g
      next T=>simp at g;obtain⟨rfl,rfl,rfl⟩:=g;exact .Uw (Nw l H D (by rw[C];exact e)<|Pr.I2 T)<|abY _ _ _
      .simp at g
     .simp at g
  .simp at g
structure Steps(P:bW)(n:G)(g:Array a8)(i:G)(os:E a8)(st l:St)(k s:G)(ds:E (E (Key×Info)×E (Key×aw Info)))(f:E G):Prop where
 len:ds.length=os.length
 acn:f.length=os.length+1
 first:f[0]? =ad k
 last:f[os.length]? =ad s
 mono:∀d a b,f[d]? =ad a->f[d+1]? =ad b->a<=b
 step:∀d(h:d<ds.length) a b,f[d]? =ad a->f[d+1]? =ad b->uL P n g (i+d) ds[d].1 ds[d].2 (λm=>a<=m/\m<b)
 reads:∀d(h:d<ds.length),∀p∈ds[d].1,qU st.kn (ds.take d) p.1=ad p.2
 fin:l.kn=qU st.kn ds
end
inductive Ex where
 |dQ
 |iE (a:G)
 |ret
def Ex.J2:Ex->Exit
 | .dQ=> .normal
 | .iE id=> .exit id
 | .ret=> .ret
def aco(a:a8):Bool:=match a.op with
 | .defer _=>ah
 |_=>ae
def nz:Code->Bool
 | .region _ ops _=>ops.toList.all aco
 | .seq x a=>nz x&&nz a
 | .cond _ x a=>nz x&&nz a
 | .block _ x=>nz x
 | .loop x=>nz x
 | .skip=>ae
 | .exit _=>ae
 | .ret=>ae
 |_=>ah
def nB(a:aw G)(b:Code):Prop:=a=none\/nz b=ae
def nB.seq{b}{x d}(a:nB b (.seq x d)):nB b x/\nB b d:=by
 rcases a with a|a
 .exact⟨.inl a,.inl a⟩
 .simp[nz]at a;exact⟨.inr a.1,.inr a.2⟩
def nB.cond{b}{f}{x d}(a:nB b (.cond f x d)):nB b x/\nB b d:=by
 rcases a with a|a
 .exact⟨.inl a,.inl a⟩
 .simp[nz]at a;exact⟨.inr a.1,.inr a.2⟩
def nB.block{a}{b}{x}(d:nB a (.block b x)):nB a x:=d
def nB.loop{a}{x}(b:nB a (.loop x)):nB a x:=b
def nB.region{f}{k}{b}{d}(a:nB f (.region k b d)):xx f b:=by
 intro i o g;rcases a with a|a
 .exact .inl a
 .refine .inr<|λc l=>?_;simp only[nz,nY]at a;have:=a o (by rw[<-F3]at g;exact Ol g);simp[aco,l]at this
def J3(P:bW)(n:G)(d:Code)(i:St)(k:G)(l:Ex)(b:St)(f:G):Prop:=
 k<=f/\∀F:dO,F.n=n->nB F.rd d->∀g W a,aR F (·<k) i.kn g W a->d.wpIn (dP F.rd) 0 P (λm p s=>m=l.J2/\∃t,aR F (·<f) b.kn t s p) a W
section
variable{P:bW}{tt:TT}
def acp{n}{d:G->Prop}{k}{g}{W}{a}(l:aR n d k.kn g W a){x}{v}(hv:qW tt k x=ad v):∀f∈v.ak,d f:=by
 cases x with
 |tmp t=>
  simp[qW]at hv
  exact λf i=>l.ak (.s t) (.v v) si f i
 |cell b t=>
  simp[qW]at hv
  split at hv
  .rename_i f p D;split at hv
   next E u z sz H A B=>intro j C;exact l.ak (.m f) (.b<|.box E u z) (by simp[St.kn,A]) j<|AW hv j C
   .simp at hv
  .simp at hv
def acq{n:dO}{d:G->Prop}{l:St}{g:Gh}{W:World}{a:Act}(m:aR n d l.kn g W a):∀(p:E A9)(k:E (Bool×E C)),qX tt l p=ad k->∀i∈et k,d i
 |[],k,f,i,b=>by simp[qX]at f;subst f;cases b
 |x::xs,k,f,i,b=>by
  simp[qX]at f;split at f
  .rename_i v t;split at f
   .rename_i s u z A;simp at f;subst f;simp[et]at b;rcases b with b|b
    .rw[N3 z]at b;exact acp (tt:=tt) m t i b
    .exact acq m xs u A i b
   .simp at f
  .simp at f
def acr{p}{b:G->Prop}{k}{g}{W}{a}(l:aR p b k.kn g W a){m}{v}(d:mc tt k m=ad v):∀n∈v.ak,b n:=by
 match m,d with
 |[],d=>
  simp[mc,qX,xK]at d
  subst d
  intro n f;cases f
 |[x],d=>exact acp (tt:=tt) l d
 |x::y::r,d=>
  simp[mc]at d
  obtain⟨s,i,rfl⟩:=d
  exact acq (tt:=tt) l _ s i
def aok(cK:cE P tt=ae){f}{d}{dU}(hf:P.funcs[f]? =ad d)(hb:d.body=ad dU)(qY:(d.name != "runtime.NumGoroutine")=ae){vs}(hle:Z vs<=d.ntmps){fm}{k}{cH:Ex}{N}{k'}(p:cH= .dQ\/cH= .ret)
  (Q:J3 P d.ntmps dU ⟨dT 0 vs,fm,0,[]⟩ k cH N k') {a7}(hr:mc tt N d.results.toList=ad a7) {T}(D:∀z b,o z T=ad b->o z N.mem=ad b):CX P f vs fm k a7 T k':=by
 refine⟨zc,Q.1,?_⟩
 intro F g W H hn lA A
 refine calls_of_wp hf hb ?_
 have O:(H.toArray++sD (d.ntmps-H.toArray.size) undef).size=d.ntmps:=cd
 have h0:aR {F with n:=d.ntmps,rd:=none} (·<k) (St.kn ⟨dT 0 vs,fm,0,[]⟩) g W {tmps:=H.toArray++sD (d.ntmps-H.toArray.size) undef,defers:=[]}:=by
  refine⟨O,A.defers,?_,A.cM,A.inj,A.ak,A.dX,A.sub,A.below,A.le,A.fresh,A.fT⟩;intro t v R;have jK:t<Z H:=by
   have X:o t (dT 0 vs)=ad v:=by simp only[St.kn,bY]at R;let ⟨x,a,p⟩:=R;cases p;exact a
   have q:∀(l:E AV)(i:G)(v:AV),o t (dT i l)=ad v->t<i+Z l:=by
    intro l;induction l with
    |nil=>intro i v Q;simp[dT,o]at Q
    |cons x l ih=>
     intro i v Q
     simp only[dT,o]at Q
     split at Q
     .simp;omega
     .have:=ih (i+1) v Q;simp;omega
   have:=q vs 0 v X;omega
  have:(H.toArray++sD (d.ntmps-H.toArray.size) undef).getD t undef=H.toArray.getD t undef:=by rw[l7,l7,uW zd]
  show bh g v ((H.toArray++sD (d.ntmps-H.toArray.size) undef).getD t undef);rw[this];exact A.dW t v R
 refine(aaG (r:=none) J).1<|wpIn_mono (Q.2 {F with n:=d.ntmps,rd:=none} rfl (.inl J) g W _ h0) ?_
 rintro e' a' W' ⟨rfl,g',B⟩
 let ⟨u,hu,w⟩:=A' (P:=P) (tt:=tt) (st:=N) cK B (fn:=d) (rs:=d.results.toList) au hr
 have K:∃v U,Ending.returned u= .returned v/\aR {F with n:=1} (·<k') (St.kn ⟨[(0,a7)],T,0,[]⟩) U W' (n7 [v]):=by
  refine⟨u,g',J,⟨J,A.defers,?_,?_,?_,?_,?_,B.sub,B.below,B.le,B.fresh,B.fT⟩⟩
  .intro t x a;simp only[St.kn,o,bY]at a;let ⟨y,C,p⟩:=a;cases p;split at C
   next cH=>subst cH;cases C;simpa[n7]using w
   .cases C
  .intro z b hb;simp only[St.kn,bY]at hb;let ⟨x,a,p⟩:=hb;cases p;exact B.cM z b (by simp[St.kn,D z b a])
  .intro z I b b' kk hb L S h2;simp only[St.kn,bY]at hb L;let ⟨x,a,p⟩:=hb;let ⟨x',Y,JS⟩:=L;cases p;cases JS;exact B.inj z I b b' kk (by simp[St.kn,D z b a]) (by simp[St.kn,D I b' Y]) S h2
  .intro q x a z M;cases q with
   |s t=>
    simp only[St.kn,o,bY]at a
    let ⟨y,C,p⟩:=a
    subst p
    split at C
    .cases C;exact (acr (tt:=tt) B hr) z M
    .cases C
   |m j=>
    simp only[St.kn,bY]at a
    let ⟨y,C,p⟩:=a
    subst p
    exact B.ak (.m j) (.b y) (by simp[St.kn,D j y C]) z M
  .intro z x a;simp only[St.kn,bY]at a;let ⟨y,C,p⟩:=a;exact B.dX z (.b y) (by simp[St.kn,D z y C])
 rcases p with rfl|rfl
 .exact⟨B.defers.trans A.defers.symm,u,hu,K⟩
 .exact⟨B.defers.trans A.defers.symm,u,hu,K⟩
end
def Om:AV->aw Bool
 | .c (.V<|.slice none 0 0)=>ad ae
 | .c (.L _ _ _ _)=>ad ah
 | .c (.S _<|_::_)=>ad ah
 |_=>none
def UH(a:TT)(t:G):Bool:=match o t a with
 |some b=>(match b.kind with| .sl _=>ae|_=>ah)
 |none=>ah
def J4(s:ByteArray)(i:Int):aw Int:=match s[i.toNat]? with
 |some b=>ad b.toNat
 |none=>none
def UI(a:TT)(op:BinOp)(t:G)(v d:AV):aw AV:=match d with
 | .c (.V<|.slice none 0 0)=>(match UH a t,Om v with
  |true,ad b=>(match op with
   | .eql=>ad<|.c<|.B b
   | .neq=>ad<|.c<|.B<|!b
   |_=>none)
  |_,_=>none)
 |_=>none
def xT(d:TT)(k:St):Op->aw (AV×Pr)
 | .build t parts=>(match o t d with
  |some f=>(match f.kind with
   | .arr len l=>(match o l d with
    |some m=>(match C9 (xO m.size 0 len) k (f.zero.map ZV.qP) parts.toList with
     |some cs=>ad (.a cs,.t)
     |none=>none)
    |none=>none)
   |_=>none)
  |none=>none)
 | .index t x i=>(match k.ev x,k.ev i with
  |some (.a cs),ad (.c<|.I _ g)=>(match o t d with
   |some f=>(match f.kind with
    | .arr len l=>(match qf d l with
     |some (sz,n)=>(match pn cs (af g*sz) sz n with
      |some u=>ad (u,.and (.le 0 g)<|.lt g len)
      |none=>none)
     |none=>none)
    |_=>none)
   |none=>none)
  |some (.c<|.V<|.string s),ad (.c<|.I _ g)=>(match o t d with
   |some f=>(match f.kind,J4 s g with
    | .str,ad b=>ad (.c<|.I .u8 b,.le 0 g)
    |_,_=>none)
   |none=>none)
  |_,_=>none)
 | .binOp op t x p _=>(match k.ev x,k.ev p with
  |some v,ad z=>(match UI d op t v z with
   |some u=>ad (u,.t)
   |none=>none)
  |_,_=>none)
 |_=>none
section
variable{P:bW}{tt:TT}{g:Gh}{W:World}
def aol{v}{b}(d:Om v=ad b){u}(i:bh g v u):∃a l k,u= .slice a l k/\a.isNone=b:=by
 unfold Om at d;split at d
 .cases d;have m:u= .slice none 0 0:=i;exact⟨none,0,0,m,J⟩
 .rename_i t n s f;cases d;cases f with
  |some k=>obtain⟨b,_,rfl⟩:=i;exact⟨_,_,_,J,J⟩
  |none=>obtain⟨_,b,k,_,rfl,_⟩:=i;exact⟨_,_,_,J,J⟩
 .rename_i T x xs;cases d;obtain⟨a,f,rfl,_,_,p⟩:=i;rcases p with p|⟨b,n,rfl,_⟩
  .cases p
  .exact⟨_,_,_,J,J⟩
 .cases d
def aom{t b}(d:P.underlying t=ad (.slice b)) a l f:(Op.equal t (.slice a l f)<|.slice none 0 0).run P W= .ok a.isNone W:=by rw[Op.equal,show Op.maxDepth=9999+1 from J,Op.equalIn];cases a<;>simp[run_underlying d]
def aon(D:cE P tt=ae){hZ}{d:G->Prop}{σ}{g}{W}{a}(N:aR hZ d σ g W a){H}{n:BinOp}{t:TypeId}{p z}{ty}(b9:H.op= .binOp n t p z ty){v:AV}{b:Bool}(f:UH tt t=ae)(hn:Om v=ad b){x:AV}
  (he:(n= .eql/\x=AV.c (.B b))\/(n= .neq/\x=AV.c (.B<|!b))) (h1:bh g v (a.eval p)/\∀s∈v.ak,d s) (u:a.eval z= .slice none 0 0):
  (∀s∈x.ak,d s)/\∃v,(execOp a.eval H).run P W= .ok (.value v) W/\bh g x v:=by
 let ⟨X,l,c,A,Q⟩:=aol hn h1.1
 have i:∃e,P.underlying t=ad (.slice e):=by
  unfold UH at f;split at f
  .rename_i j K;split at f
   next e h=>have T:=(fw D K).kind;rw[h]at T;exact⟨e,T⟩
   .cases f
  .cases f
 let ⟨e,i⟩:=i
 have k:execOp a.eval H=(do pure (.value<|<-(do eqGuard n t p z (a.eval p) (a.eval z);binOp n t (a.eval p) (a.eval z):Go.Sem aT))):=xE
 have heq:=aom (P:=P) (W:=W) i X l c
 rcases he with⟨rfl,rfl⟩|⟨rfl,rfl⟩
 .refine⟨λs m=>by simp[AV.ak,C.ak]at m,.bool b,?_,J⟩;rw[k,A,u];simp[eqGuard,binOp,heq,eo,Q]
 .refine⟨λs m=>by simp[AV.ak,C.ak]at m,.bool (!b),?_,J⟩;rw[k,A,u];simp[eqGuard,binOp,heq,eo,Q]
def UJ(H:cE P tt=ae){ops}{i}{aG:a8}{d:G}(ho:ops[i]? =ad aG)(hg:aG.guard=none)(hd:aG.dst=ad d){n}(dG:d<n)
 {st}{x}{p}(f:xT tt st aG.op=ad (x,p)) (hp:p) new:jd P n ops i (qe st aG.op) [(.s d,ad<|.v x)] new:=by
 refine uO ho hg hd dG _ x new ?_
 intro F M σ g W a K O
 have R:∀y∈aG.op.operands,∀kx∈cQ st y,σ kx.1=ad kx.2:=by intro y Q kx S;exact O kx<|js.2 ⟨y,by simpa using Q,S⟩
 have D:∀y∈aG.op.operands,∀u,st.ev y=ad u->bh g u (a.eval y)/\∀id∈u.ak,M id:=by intro y Q u U;exact⟨dY K st y u U<|R y Q,tx K st y u U<|R y Q⟩
 generalize b9:aG.op=op at f D R O
 unfold xT at f
 split at f
 .rename_i t l;split at f
  .rename_i ti T;split at f
   .rename_i X E hk;split at f
    .rename_i ei ny;split at f
     .rename_i cs TV;cases f;have L:=(fw H T).kind;rw[hk]at L;have U:P.underlying t=ad (.array X E):=L;let ⟨inf,N,iu,_,z,hz,y8⟩:=(fw H T).info;let ⟨ie,hie,UK,_⟩:=(fw H ny).info;have hzr:a6 g (ti.zero.map ZV.qP) (ti.zero.map ZV.fU):=A4 g ti.zero;let ⟨us,V,e,hlen,aoq⟩:=Jo K st (xO ei.size 0 X) (λi=>ad (i*ei.size,ei.size)) (λi y Q=>by have:=NN ei.size X 0 i y Q;rw[this,fD]) l.toList _ cs _ TV hzr (λq hq kx S=>O kx<|js.2 ⟨q.2,by simp only[Op.operands];simp only[kd];exact⟨q,hq,J⟩,S⟩) (by rw[Nu];intro _ h;cases h);refine⟨aoq,.agg us.toArray,?_,us,J,e⟩;have GC:(zeroValue t).run P W= .ok z W:=by simp[zeroValue,typeInfo,N,hz]
      have aor:z.cells=(ti.zero.map ZV.fU).toArray:=FX;have m:execOp a.eval aG=(do pure (.value<|<-Jq t (l.map λ(i,x)=>(i,a.eval x)))):=xE;have On:(l.map λ(i,x)=>(i,a.eval x)).toList=l.toList.map λp=>(p.1,a.eval p.2):=au
      have hb:(Jq t<|l.map λ(i,x)=>(i,a.eval x)).run P W= .ok (.agg us.toArray) W:=by unfold Jq;rw[dH,GC];simp only[eo];rw[dH,run_underlying U];simp only[eo];rw[dH,run_sizeOf hie];simp only[eo,On,aor,UK,V];rfl
      rw[m,dH,hb];rfl
     .cases f
    .cases f
   .cases f
  .cases f
 .rename_i t y j;have m:execOp a.eval aG=(do pure (.value<|<-Oo t (a.eval y) (a.eval j))):=xE;split at f
  .rename_i cs k jj Q hj;split at f
   .rename_i ti T;split at f
    .rename_i X E hk;split at f
     .rename_i sz ag FW;split at f
      .rename_i u U;cases f;obtain⟨Y,n6⟩:0<=jj/\jj<(X:Int):=hp;have L:=(fw H T).kind;rw[hk]at L;have r:P.underlying t=ad (.array X E):=L;let ⟨vs,u7,e⟩:=(D y iL _ Q).1;have Z:a.eval j= .int k jj:=(D j iL _ hj).1;let ⟨hag,⟨inf,N,iu⟩,_⟩:=Je H FW;let ⟨v,hv,Oe⟩:=aaO (P:=P) e U hag N iu W;refine⟨λid aY=>(D y iL _ Q).2 id<|AW U id aY,v,?_,Oe⟩;have I:(Oo t (a.eval y)<|a.eval j).run P W= .ok v W:=by rw[u7,Z];unfold Oo;simp only[asIntOf,dH,Sem.run_pure,eo,run_underlying r,Y,n6,and_self,cz,run_sizeOf N,iu];exact hv
       rw[m,dH,I];rfl
      .cases f
     .cases f
    .cases f
   .cases f
  .rename_i s k jj Q hj;split at f
   .rename_i ti T;split at f
    .rename_i b hk hb;cases f;have Y:0<=jj:=hp;have L:=(fw H T).kind;rw[hk]at L;have r:P.underlying t=ad .string:=L;have hyv:a.eval y= .string s:=(D y iL _ Q).1;have Z:a.eval j= .int k jj:=(D j iL _ hj).1;refine⟨λid aY=>by simp[AV.ak,C.ak]at aY,.int .u8 b,?_,J⟩;have I:(Oo t (a.eval y)<|a.eval j).run P W= .ok (.int .u8 b) W:=by
      rw[hyv,Z];unfold J4 at hb;unfold Oo;simp only[asIntOf,dH,Sem.run_pure,eo,run_underlying r,Y,cz];split at hb
      next bb J5=>cases hb;rw[J5];rfl
      .cases hb
     rw[m,dH,I];rfl
    .cases f
   .cases f
  .cases f
 .rename_i bo t y z ty;split at f
  .rename_i v w Q hz;split at f
   .rename_i u0 A;cases f;unfold UI at A;split at A
    .split at A
     .rename_i b hsk hn;have aov:(bo= .eql/\x=AV.c (.B b))\/(bo= .neq/\x=AV.c (.B<|!b)):=by
       split at A
       .cases A;exact .inl ⟨J,J⟩
       .cases A;exact .inr ⟨J,J⟩
       .cases A
      exact aon H K b9 hsk hn aov (D y iL _ Q) (D z iL _ hz).1
     .cases A
    .cases A
   .cases f
  .cases f
 .cases f
end
inductive D4 where
 |a|b|c|d
inductive T4(f:Type) where
 |e
 |lf (v:f)
 |nd (a b c d:T4 f)
section
variable{α:Type}
def kI(p:E D4):T4 α->aw α:=mh (motive:=λ_=>T4 α->aw α)
 (λt=>T4.rec (motive:=λ_=>aw α) none (λv=>ad v) (λ_ _ _ _ _ _ _ _=>none) t)
 (λx _ f t=>T4.rec (motive:=λ_=>aw α) none (λ_=>none) (λa b c d _ _ _ _=>D4.rec (motive:=λ_=>aw α) (f a) (f b) (f c) (f d) x) t) p
def kY(p:E D4)(v:α):T4 α->T4 α:=mh (motive:=λ_=>T4 α->T4 α)
 (λ_=> .lf v)
 (λx _ f t=>T4.rec (motive:=λ_=>T4 α)
  (D4.rec (motive:=λ_=>T4 α) (.nd (f .e) .e .e .e) (.nd .e (f .e) .e .e) (.nd .e .e (f .e) .e) (.nd .e .e .e<|f .e) x)
  (λ_=>D4.rec (motive:=λ_=>T4 α) (.nd (f .e) .e .e .e) (.nd .e (f .e) .e .e) (.nd .e .e (f .e) .e) (.nd .e .e .e<|f .e) x)
  (λa b c d _ _ _ _=>D4.rec (motive:=λ_=>T4 α) (.nd (f a) b c d) (.nd a (f b) c d) (.nd a b (f c) d) (.nd a b c<|f d) x) t) p
def GG(p:E D4):T4 α->T4 α:=mh (motive:=λ_=>T4 α->T4 α)
 (λ_=> .e)
 (λx _ f t=>T4.rec (motive:=λ_=>T4 α) .e (λ_=> .e)
  (λa b c d _ _ _ _=>D4.rec (motive:=λ_=>T4 α) (.nd (f a) b c d) (.nd a (f b) c d) (.nd a b (f c) d) (.nd a b c<|f d) x) t) p
def Bl:∀p:E D4,kI p (.e:T4 α)=none
 |[]=>rfl
 |_::_=>rfl
def J6(v:α):∀(p:E D4)(t:T4 α),kI p (kY p v t)=ad v
 |[],_=>rfl
 |x::p,t=>by cases t<;>cases x<;>exact J6 v p _
def GH(v:α):∀(p a:E D4)(t:T4 α),Z p=Z a->p≠a->kI a (kY p v t)=kI a t
 |[],[],_,_,b=>aF J b
 |[],_::_,_,b,_=>by simp at b
 |_::_,[],_,b,_=>by simp at b
 |x::p,i::a,t,hl,b=>by
  have d:Z p=Z a:=vU;by_cases f:x=i
  .subst f;have g:p≠a:=λe=>b xU
   cases t<;>cases x<;>first|exact GH v p a _ d g|exact(GH v p a _ d g).trans<|Bl a
  .cases t<;>cases x<;>cases i<;>first|rfl|exact Bl a|exact aF rfl f
def UL:∀(p:E D4)(t:T4 α),kI p (GG p t)=none
 |[],_=>rfl
 |x::p,t=>by cases t<;>cases x<;>first|rfl|exact UL p _
def UM:∀(p a:E D4)(t:T4 α),Z p=Z a->p≠a->kI a (GG p t)=kI a t
 |[],[],_,_,b=>aF J b
 |[],_::_,_,b,_=>by simp at b
 |_::_,[],_,b,_=>by simp at b
 |x::p,i::a,t,hl,b=>by
  have f:Z p=Z a:=vU;by_cases d:x=i
  .subst d;have g:p≠a:=λe=>b xU
   cases t<;>cases x<;>first|rfl|exact UM p a _ f g
  .cases t<;>cases x<;>cases i<;>first|rfl|exact aF rfl d
end
def pD:G->D4
 |0=> .a
 |1=> .b
 |2=> .c
 |_=> .d
def dm:G->G->E D4
 |0,_=>[]
 |n+1,t=>pD (t/4^n)::dm n (t%4^n)
def UN:∀n t,(dm n t).length=n
 |0,_=>rfl
 |n+1,t=>by simp[dm,UN n]
def Oq{a b}(i:a<4)(k:b<4)(d:pD a=pD b):a=b:=by have f:a=0\/a=1\/a=2\/a=3:=Y;have g:b=0\/b=1\/b=2\/b=3:=Y;rcases f with rfl|rfl|rfl|rfl<;>rcases g with rfl|rfl|rfl|rfl<;>first|rfl| (simp[pD]at d)
def Dx:∀(n:G){a b:G},a<4^n->b<4^n->dm n a=dm n b->a=b
 |0,a,b,d,f,_=>by simp at d f;omega
 |n+1,a,b,d,f,g=>by simp[dm]at g;have i:0<4^n:=gG S;have k:a/4^n=b/4^n:=Oq (Bc<|by rw[fG]at d;omega) (Bc<|by rw[fG]at f;omega) g.1;have l:a%4^n=b%4^n:=Dx n (gU _ i) (gU _ i) g.2;rw[<-tJ a (4^n),<-tJ b (4^n),k,l]
abbrev Tr:=T4 AV
abbrev Mem:=E<|G×aA
section
variable{α:Type}
def oa(a:G)(l:E (G×α)):aw α:=mh (motive:=λ_=>aw α) none
 (λh _ b=>Prod.rec (motive:=λ_=>aw α) (λk x=>Bm (motive:=λ_=>aw α) b (ad x)<|jk k a) h) l
def J7(a:G)(v:α)(l:E (G×α)):E (G×α):=mh (motive:=λ_=>E<|G×α) [(a,v)]
 (λh r b=>Prod.rec (motive:=λ_=>E<|G×α) (λk x=>Bm (motive:=λ_=>E<|G×α) ((k,x)::b) ((a,v)::r)<|jk k a) h) l
def zt(a:G):∀l:E (G×α),oa a l=o a l
 |[]=>rfl
 | (k,x)::b=>by
  show Bm (motive:=λ_=>aw α) (oa a b) (ad x) (jk k a)=_;simp[o];by_cases h:k=a
  .subst h;rw[Dy,q J]
  .have:jk k a=ah:=by
    cases f:jk k a
    .rfl
    .exact aF (mi f) h
   rw[this,y h];exact zt a b
def acs(a:G)(v:α):∀l:E (G×α),J7 a v l=jt a v l
 |[]=>rfl
 | (k,x)::b=>by
  show Bm (motive:=λ_=>E<|G×α) ((k,x)::J7 a v b) ((a,v)::b) (jk k a)=_;simp[jt];by_cases h:k=a
  .subst h;rw[Dy,q J]
  .have:jk k a=ah:=by
    cases f:jk k a
    .rfl
    .exact aF (mi f) h
   rw[this,y h];simp[acs a v b]
end
def dW(dep n:G)(t:Tr):E (G×AV):=(List.range n).filterMap λj=>(kI (dm dep j) t).map λv=>(j,v)
def bA(dep n:G)(t:Tr)(m:Mem):St:=⟨dW dep n t,m,0,[]⟩
def acu{d:Type}(g:G->aw d)(t:G):∀l:E G,o t (l.filterMap λa=>(g a).map λv=>(a,v))=if t∈l then g t else none
 |[]=>rfl
 |a::l=>by
  have b:=acu g t l;simp[List.filterMap_cons];cases hg:g a with
  |none=>
   simp[Option.map_none,b]
   by_cases h:t=a
   .subst h;simp[hg]
   .simp[h]
  |some v=>
   simp[xK,o,b]
   by_cases h:a=t
   .subst h;simp[hg]
   .have:t≠a:=λe=>h e.symm
    simp[h,this]
def vb dep n t a:o a (dW dep n t)=if a<n then kI (dm dep a) t else none:=by unfold dW;rw[acu (λa=>kI (dm dep a) t) a];simp[qO]
def GJ(dep n:G)(t:Tr)(m:Mem):(bA dep n t m).kn=λ| .s a=>((if a<n then kI (dm dep a) t else none)).map .v| .m id=>(o id m).map .b:=by
 funext k;cases k with
 |s a=>simp[bA,St.kn,vb]
 |m id=>rfl
def acv dep n(t:Tr) d a v(g:n<=4^dep)(f:d<n):o a (dW dep n<|kY (dm dep d) v t)=if d=a then ad v else o a (dW dep n t):=by
 rw[vb,vb];by_cases h:d=a
 .subst h;simp[f,J6]
 .rw[y h];by_cases b:a<n
  .rw[q b,q b,GH _ _ _ _ GK<|λe=>h<|Dx dep Y Y e]
  .rw[y b,y b]
def aow dep n(t:Tr) d a(g:n<=4^dep)(f:d<n):o a (dW dep n<|GG (dm dep d) t)=if d=a then none else o a (dW dep n t):=by
 rw[vb,vb];by_cases h:d=a
 .subst h;simp[f,UL]
 .rw[y h];by_cases b:a<n
  .rw[q b,q b,UM _ _ _ GK<|λe=>h<|Dx dep Y Y e]
  .rw[y b,y b]
def GL dep n(t:Tr)(m:Mem) d v(a:n<=4^dep)(b:d<n):(bA dep n (kY (dm dep d) v t) m).kn=bw (bA dep n t m).kn [(.s d,ad<|.v v)]:=by
 funext k;cases k with
 |s j=>
  simp[bA,St.kn,bw,aD,acv dep n t d j v a b]
  split<;>simp
 |m id=>simp[bA,St.kn,bw,aD]
def aox dep n(t:Tr)(m:Mem) d(a:n<=4^dep)(b:d<n):(bA dep n (GG (dm dep d) t) m).kn=bw (bA dep n t m).kn [(.s d,none)]:=by
 funext k;cases k with
 |s j=>
  simp[bA,St.kn,bw,aD,aow dep n t d j a b]
  split<;>simp
 |m id=>simp[bA,St.kn,bw,aD]
def acw dep n t(m f:Mem) wr(g:∀a,(o a f).map Info.b=bw (bA dep n t m).kn wr (.m a))(i:∀d,aD wr (.s d)=none):(bA dep n t f).kn=bw (bA dep n t m).kn wr:=by
 funext k;cases k with
 |s d=>simp[bA,St.kn,bw,i d]
 |m a=>exact g a
def Ot:Int->Int->Bool
 | .ofNat m,.ofNat n=>fa m n
 | .negSucc _,.ofNat _=>ae
 | .negSucc m,.negSucc n=>fa n m
 | .ofNat _,.negSucc _=>ah
def UO:Int->Int->Bool
 | .ofNat m,.ofNat n=>jk m n
 | .negSucc m,.negSucc n=>jk m n
 |_,_=>ah
def acx a b:Ot a b=decide (a<=b):=by cases a<;>cases b<;>simp only[Ot]<;>rw[Bool.eq_iff_iff]<;>simp[Nat.ble_eq]<;>omega
def aoy a b:UO a b=decide (a=b):=by cases a<;>cases b<;>simp[UO]<;>rw[Bool.eq_iff_iff]<;>simp<;>omega
def Ou:Int->Bool
 | .ofNat m=>dZ m 9223372036854775808
 | .negSucc m=>dZ m 9223372036854775808
def aoz{n}(a:Ou n=ae):ia n:=by
 cases n with
 |ofNat m=>simp[Ou,vd]at a;unfold ia;simp[Int.ofNat_eq_natCast];omega
 |negSucc m=>simp[Ou,vd]at a;unfold ia;omega
def wy:Pr->Bool
 | .t=>ae
 | .i64 n=>Ou n
 | .CV b=>Bool.not<|UO b 0
 | .le a b=>Ot a b
 | .lt a b=>Bool.not<|Ot b a
 | .CW a b=>dZ a b
 | .vQ a b=>a==b
 | .and p d=>match wy p with
  |true=>wy d
  |false=>ah
def GM:∀{p:Pr},wy p=ae->p.h
 | .t,_=>trivial
 | .i64 _,d=>aoz d
 | .CV b,d=>by simp[wy,aoy]at d;simpa[Pr.h]using d
 | .le a b,d=>by simp[wy,acx]at d;simpa[Pr.h]using d
 | .lt a b,d=>by simp[wy,acx]at d;simpa[Pr.h]using d
 | .CW a b,d=>by simpa[wy,Pr.h,vd]using d
 | .vQ a b,d=>by simpa[wy,Pr.h]using d
 | .and p g,d=>by
  simp[wy]at d;split at d
  next f=>exact⟨GM f,GM d⟩
  .cases d
def GN(k:G):C->Bool
 | .P id _=>dZ id k
 | .X id=>dZ id k
 | .Y id _ _ _=>dZ id k
 | .L id _ _ _=>dZ id k
 | .W id _ _=>dZ id k
 |_=>ae
def acy{k}{a}(b:GN k a=ae):∀d∈a.ak,d<k:=by cases a<;>simp only[GN,C.ak,vd]at b⊢<;>simp<;>exact b
def wz(k:G)(l:E C):Bool:=mh (motive:=λ_=>Bool) ae (λc _ a=>Bm (motive:=λ_=>Bool) ah a<|GN k c) l
def Bn{k:G}:∀{l:E C},wz k l=ae->∀b∈b6 l,b<k
 |[],_=>by simp[b6]
 |f::g,i=>by
  have d:Bm (motive:=λ_=>Bool) ah (wz k g) (GN k f)=ae:=i;cases hc:GN k f with
  |false=>rw[hc]at d;cases d
  |true=>
   rw[hc]at d
   intro b a
   simp[b6]at a
   rcases a with a|a
   .exact acy hc b a
   .exact Bn d b a
def J8(k:G)(l:E (Bool×E C)):Bool:=mh (motive:=λ_=>Bool) ae (λc _ a=>Bm (motive:=λ_=>Bool) ah a<|wz k c.2) l
def Ov{k:G}:∀{l:E (Bool×E C)},J8 k l=ae->∀b∈et l,b<k
 |[],_=>by simp[et]
 |f::g,i=>by
  have d:Bm (motive:=λ_=>Bool) ah (J8 k g) (wz k f.2)=ae:=i;cases hc:wz k f.2 with
  |false=>rw[hc]at d;cases d
  |true=>
   rw[hc]at d
   intro b a
   simp[et]at a
   rcases a with a|a
   .exact Bn hc b a
   .exact Ov d b a
def acz(k:G):AV->Bool
 | .c x=>GN k x
 | .a cs=>wz k cs
 | .t b=>J8 k b
def aoA{k}{v}(b:acz k v=ae):∀d∈v.ak,d<k:=by
 cases v with
 |c x=>exact acy b
 |a cs=>exact Bn b
 |t f=>exact Ov b
inductive Pd where
 |s (p:E D4)
 |k (v:AV)
def lB(t:Tr):Pd->aw AV
 | .s p=>kI p t
 | .k v=>ad v
def zu(t:Tr)(l:E Pd):aw (E AV):=mh (motive:=λ_=>aw<|E AV) (ad [])
 (λx _ a=>match lB t x with
  |some v=>(match a with
   |some vs=>ad<|v::vs
   |none=>none)
  |none=>none) l
def jC(dep n:G):fE->aw Pd
 | .tmp a=>(match dZ a n with
  |true=>ad<|.s<|dm dep a
  |false=>none)
 | .const v=>ad<|.k<|FF v
 | .func f=>ad<|.k<|.c<|.V<|.func (.func f) #[] #[]
 | .global _=>none
def zv(dep n:G):E fE->aw (E Pd)
 |[]=>ad []
 |x::xs=>(match jC dep n x,zv dep n xs with
  |some p,ad ps=>ad<|p::ps
  |_,_=>none)
abbrev Ms:=E Mem
def bO(a:G)(d:Ms):aw aA:=mh (motive:=λ_=>aw aA) none
 (λm _ f=>match oa a m with
  |some b=>ad b
  |none=>f) d
def sF(a:G)(b:aA)(d:Ms):Ms:=mh (motive:=λ_=>Ms) []
 (λm r f=>match oa a m with
  |some _=>J7 a b m::r
  |none=>m::f) d
def wA(a:G):Ms->Ms
 |[]=>[]
 |m::b=>uU a m::wA a b
def Bo(k:G)(b:aA):Ms->Ms
 |m::a=>((k,b)::m)::a
 |[]=>[[(k,b)]]
def kJ(a:G):∀d:Ms,o a d.flatten=bO a d
 |[]=>rfl
 |m::f=>by
  show _=match oa a m with|some b=>ad b|none=>bO a f
  rw[NG,GB,zt,kJ a f];cases o a m<;>rfl
def GO(d a:G)(b:aA):∀i:Ms,bO d (sF a b i)=match bO a i with
  |some _=>if a=d then ad b else bO d i
  |none=>bO d i
 |[]=>rfl
 |m::f=>by
  have k:∀d(m:Mem)(f:Ms),bO d (m::f)=match oa d m with|some b=>ad b|none=>bO d f:=λ_ _ _=>rfl
  have n:sF a b (m::f)=match oa a m with|some _=>J7 a b m::f|none=>m::sF a b f:=rfl
  rw[n,k a m f];cases h:oa a m with
  |some x=>
   simp[k,zt,acs,qm]
   by_cases g:a=d
   .simp[g]
   .simp[g]
  |none=>
   simp[k,GO d a b f]
   cases h2:bO a f with
   |none=>rfl
   |some x=>
    by_cases g:a=d
    .subst g;simp[h]
    .simp[g]
def Dz(a d:G):∀g:Ms,bO a (wA d g)=if d=a then none else bO a g
 |[]=>by simp[wA,bO]
 |m::f=>by
  have k:∀a(m:Mem)(f:Ms),bO a (m::f)=match oa a m with|some b=>ad b|none=>bO a f:=λ_ _ _=>rfl
  simp[wA,k,zt,C',Dz a d f];by_cases l:d=a<;>simp[l]
def J9 a k b ms:bO a (Bo k b ms)=if k=a then ad b else bO a ms:=by
 have d:∀a(m:Mem)(r:Ms),bO a (m::r)=match oa a m with|some b=>ad b|none=>bO a r:=λ_ _ _=>rfl
 cases ms with
 |nil=>simp[Bo,d,zt,o];by_cases h:k=a<;>simp[h,bO]
 |cons m r=>simp[Bo,d,zt,o];by_cases h:k=a<;>simp[h]
inductive Ft where
 |n
 |m (rd a:E G)
 |c (k b:G) (d:E G)
inductive Rs where
 |no
 |ok (t:Tr) (ms:Ms) (k:G) (a:E G) (f:Ft)
inductive Cr where
 |no
 |ok (r:AV) (ms:Ms) (k:G) (a:E G)
abbrev ob:=jB->E AV->Ms->G->Cr
inductive Ow where
 |mv (d:E D4) (x:Pd)
 |bin (d:E D4) (op:BinOp) (a:G) (x b:Pd)
 |idx (d:E D4) (a:G) (x i:Pd)
 |fad (d:E D4) (a:G) (x:Pd) (f:G)
 |ext (d:E D4) (x:Pd) (k:G)
 |len (d:E D4) (a:G) (x:Pd)
 |ld (d:E D4) (a:G) (x:Pd)
 |st (a:G) (x b:Pd)
 |gen (d:aw (G×E D4)) (sl:E (G×E D4)) (op:Op)
 |call (d:E D4) (f:jB) (args:E Pd)
 |acB (d:E D4) (x:Pd) (args:E Pd)
def wB(d:E D4)(v:AV)(t:Tr)(a:Ms)(k:G)(b:E G)(f:Ft):Rs:=match acz k v with
 |true=> .ok (kY d v t) a k b f
 |false=> .no
def Ox(d:E D4)(a:aw (AV×Pr))(t:Tr)(b:Ms)(k:G)(f:E G):Rs:=match a with
 |some (v,p)=>(match wy p with
  |true=>wB d v t b (k+1) f .n
  |false=> .no)
 |none=> .no
def acC(a:TT)(b:G)(v d:AV):aw (AV×Pr):=match NU a b v d with
 |some r=>ad r
 |none=>Ni a b v d
def acD(a:TT)(b:G)(v:AV):aw AV:=match NV a b v with
 |some r=>ad r
 |none=>I6 a b v
def Oy(l:E C):G->aw C:=mh (motive:=λ_=>G->aw C) (λ_=>none) (λc _ a n=>Oz (motive:=λ_=>aw C) (ad c) (λm _=>a m) n) l
def acE(n:G):E C->E C:=Oz (motive:=λ_=>E C->E C) (λl=>l) (λ_ a l=>mh (motive:=λ_=>E C) [] (λ_ r _=>a r) l) n
def DA(a:C):aw (E C)->aw (E C)
 |some b=>ad<|a::b
 |none=>none
def UP(n:G):E C->aw (E C):=Oz (motive:=λ_=>E C->aw (E C)) (λ_=>ad []) (λ_ a l=>mh (motive:=λ_=>aw<|E C) none (λc r _=>DA c<|a r) l) n
def UQ(a:E C):E C->aw (E C):=mh (motive:=λ_=>E C->aw (E C)) (λl=>ad l) (λu _ b l=>mh (motive:=λ_=>aw<|E C) none (λ_ r _=>DA u<|b r) l) a
def UR(b:E C)(a:G):E C->aw (E C):=Oz (motive:=λ_=>E C->aw (E C)) (UQ b) (λ_ d l=>mh (motive:=λ_=>aw<|E C) none (λc r _=>DA c<|d r) l) a
def acF:∀(l:E C)(n:G),Oy l n=l[n]?
 |[],n=>by simp[Oy]
 |b::a,0=>rfl
 |b::a,n+1=>by show Oy a n=_;rw[acF a n,xB]
def acG:∀(n:G)(l:E C),acE n l=az n l
 |0,l=>rfl
 |n+1,[]=>rfl
 |n+1,b::a=>acG n a
def US{d}{b}{x}(f:DA d b=ad x):∃a,b=ad a/\x=d::a:=by
 cases b with
 |none=>cases f
 |some a=>cases f;exact⟨a,J,J⟩
def acH:∀(n:G)(l x:E C),UP n l=ad x->n<=Z l/\x=r n l
 |0,l,x,a=>by cases a;exact⟨bg _,J⟩
 |n+1,[],x,a=>by cases a
 |n+1,d::b,x,a=>by obtain⟨f,g,rfl⟩:=US (show DA d (UP n b)=ad x from a);let ⟨i,h2⟩:=acH n b f g;exact⟨by simpa using i,by simp[h2]⟩
def acI:∀(a l x:E C),UQ a l=ad x->Z a<=Z l/\x=a++az (Z a) l
 |[],l,x,b=>by cases b;exact⟨bg _,J⟩
 |u::a,[],x,b=>by cases b
 |u::a,k::d,x,b=>by obtain⟨f,g,rfl⟩:=US (show DA u (UQ a d)=ad x from b);let ⟨i,h2⟩:=acI a d f g;exact⟨by simpa using i,by simp[h2]⟩
def acJ(b:E C):∀(a:G)(l x:E C),UR b a l=ad x->a+Z b<=Z l/\x=cR l b a
 |0,l,x,d=>by let ⟨f,h2⟩:=acI b l x d;exact⟨Y,by simp[cR,h2]⟩
 |a+1,[],x,d=>by cases d
 |a+1,c::r,x,d=>by obtain⟨y,g,rfl⟩:=US (show DA c (UR b a r)=ad x from d);let ⟨f,h2⟩:=acJ b a r y g;refine⟨cd,?_⟩;simp[cR,h2,(Y:a+1+Z b=a+Z b+1)]
def J'(d:E C)(b sz:G)(f:Bool):aw AV:=match f with
 |true=>(match UP sz (acE b d)with
  |some x=>ad<|.a x
  |none=>none)
 |false=>(match Oy d b with
  |some c=>ad<|.c c
  |none=>none)
def UU{d}{b sz}{f}{x}(a:J' d b sz f=ad x)(k:sz=0->b<=Z d):pn d b sz f=ad x:=by
 unfold J' at a;unfold pn;split at a
 .split at a
  next y l=>cases a;let ⟨g,h2⟩:=acH _ _ _ l;rw[acG]at g h2;rw[q J,q (by simp at g;by_cases m:sz=0;have:=k m;omega;omega),h2]
  .cases a
 .split at a
  next c i=>cases a;rw[acF]at i;simp[i]
  .cases a
def UW(b:TT)(d:Ms)(f:G)(v:AV):aw (AV×E G):=match qf b f with
 |some (0,_)=>none
 |some (sz,a)=>(match v with
  | .c (.P id off)=>(match bO id d with
   |some (.box _ _ cs)=>(match J' cs off sz a with
    |some y=>ad (y,[id])
    |none=>none)
   |some (.fz _ cs)=>(match J' cs off sz a with
    |some y=>ad (y,[id])
    |none=>none)
   |_=>none)
  | .c (.E T e off)=>(match J' (av T e) off sz a with
   |some y=>ad (y,[])
   |none=>none)
  |_=>none)
 |none=>none
def OA:E C->Bool
 |[]=>ae
 |a::b=>match lO a with
  |true=>OA b
  |false=>ah
def acK:∀{l:E C},OA l=ae->l.all lO=ae
 |[],_=>rfl
 |d::f,a=>by
  simp[OA]at a;split at a
  next b=>simp[b,acK a]
  .cases a
def acL(d b sz:G)(a:E C):aw aA->aw (G×aA×E C)
 |some (.box f g cs)=>(match jk (Z a) sz&&OA a with
  |true=>(match UR a b cs with
   |some x=>ad (d,.box f g x,a)
   |none=>none)
  |false=>none)
 |_=>none
def UX(a:TT)(b:Ms)(d:G)(x v:AV):aw (G×aA×E C):=match qf a d,x,l3 v with
 |some (sz,_),.c (.P id off),ad us=>acL id off sz us<|bO id b
 |_,_,_=>none
def DB(d a:G)(b:E G):E G:=match dZ a d with
 |true=>a::b
 |false=>b
def OB(d:G)(a b:E G):E G:=match a with
 |[]=>b
 |_=>a.filter (λf=>dZ f d)++b
def OC(k:G):E (E C×E C)->Bool
 |[]=>ae
 |x::a=>match wz k x.1 with
  |true=>(match wz k x.2 with
   |true=>OC k a
   |false=>ah)
  |false=>ah
def acM{k:G}:∀{xs:E (E C×E C)},OC k xs=ae->∀b∈lZ xs,b<k
 |[],_,b,a=>by simp[lZ]at a
 |x::i,d,b,a=>by
  simp[OC]at d;split at d
  .rename_i f;split at d
   .rename_i g;simp[lZ]at a;rcases a with a|a|a
    .exact Bn f b a
    .exact Bn g b a
    .exact acM d b a
   .cases d
  .cases d
def Ka(k:G):aA->Bool
 | .box _ _ cs=>wz k cs
 | .vec _ _ _=>ae
 | .eB _ a b=>match J8 k a with
  |true=>J8 k b
  |false=>ah
 | .fz _ cs=>wz k cs
 | .mp _ _ xs=>OC k xs
 | .it m _ _=>dZ m k
def acN{k}{b}(d:Ka k b=ae):∀i∈b.ak,i<k:=by
 cases b with
 |box E z cs=>exact Bn d
 |vec E T xs=>simp[aA.ak]
 |eB f a b=>
  simp[Ka]at d
  split at d
  next l=>intro i g;simp[aA.ak]at g;exact g.elim (Ov l i)<|Ov d i
  .cases d
 |fz E cs=>exact Bn d
 |mp p s xs=>exact acM d
 |it m n seen=>simpa[aA.ak,Ka]using d
def pE(b:E (G×E D4))(t:Tr):E (G×AV):=mh (motive:=λ_=>E<|G×AV) []
 (λx _ a=>match kI x.2 t with
  |some v=>(x.1,v)::a
  |none=>a) b
def Bp:E (G×AV)->E G
 |[]=>[]
 | (_,v)::a=>v.ak++Bp a
def ve(a:E G)(g:Ms):Mem:=mh (motive:=λ_=>Mem) []
 (λd _ f=>match bO d g with
  |some b=>(d,b)::f
  |none=>f) a
def acO:JX:=λ_ _ _ _=>none
def mK:E Key->E G
 |[]=>[]
 | .m id::a=>id::mK a
 | .s _::a=>mK a
def wS(d:aw G):E Key->Bool
 |[]=>ae
 | .m _::a=>wS d a
 | .s b::a=>(match d with
  |some d=>(match jk d b with
   |true=>wS (ad d) a
   |false=>ah)
  |none=>ah)
def DC(a:G):E G->Bool
 |[]=>ah
 |x::b=>match jk x a with
  |true=>ae
  |false=>DC a b
def rS(a:E G):E Key->Bool
 |[]=>ae
 | .m _::b=>rS a b
 | .s d::b=>(match DC d a with
  |true=>rS a b
  |false=>ah)
def DD(k m:G)(n f:Mem)(i:E G):Ms->E G->aw (Ms×E G):=mh (motive:=λ_=>Ms->E G->aw (Ms×E G))
 (λd g=>ad (d,g))
 (λa _ l d g=>match oa a f with
  |some b=>(match Ka (k+1) b with
   |true=>(match jk a k with
    |true=>l (Bo k b d) g
    |false=>(match bO a d with
     |some _=>l (sF a b d)<|DB m a g
     |none=>none))
   |false=>none)
  |none=>(match oa a n with
   |some _=>l (wA a d)<|DB m a g
   |none=>none)) i
def UY(s:TT)(n z:G)(d:aw (G×E D4))(A:E (G×E D4))(op:Op)(t:Tr)(u:Ms)(k:G)(x:E G)(b:E (G×AV))(l:Mem):Rs:=
 match UG acO s n k (d.map (·.1)) op ⟨b,l,0,[]⟩with
 |some (f,B,a)=>(match jk B (k+1)&&wS (d.map (·.1)) a.2&&rS (A.map (·.1)) a.1 with
  |true=>(match DD k z l f.mem (mK a.2) u x with
   |some (g,i)=>(match d with
    |none=> .ok t g (k+1) i<|.m (mK a.1)<|mK a.2
    |some (C,p)=>(match o C f.sl with
     |some v=>wB p v t g (k+1) i<|.m (mK a.1)<|mK a.2
     |none=> .no))
   |none=> .no)
  |false=> .no)
 |none=>(match d with
  |some (_,p)=>Ox p (xT s ⟨b,l,0,[]⟩ op) t u k x
  |none=> .no)
def GP(b:ob)(l:G)(d:E D4)(f:jB)(vs:E AV)(t:Tr)(m:Ms)(k:G)(n:E G):Rs:=match b f vs m k with
 | .ok r g i a=>wB d r t g i (OB l a n)<|.c k i a
 | .no=> .no
def UZ(d:E D4)(x:Pd)(t:Tr)(a:Ms)(k:G)(b:E G):Rs:=match lB t x with
 |some v=>wB d v t a (k+1) b .n
 |none=> .no
def acP(f:TT)(d:E D4)(op:BinOp)(g:G)(a b:C)(t:Tr)(i:Ms)(k:G)(l:E G):Rs:=match UI f op g (.c a) (.c b)with
 |some u=>wB d u t i (k+1) l .n
 |none=> .no
def acQ(d:E D4)(a:C)(p:Pr)(t:Tr)(b:Ms)(k:G)(f:E G):Rs:=match wy p with
 |true=> .ok (kY d (.c a) t) b (k+1) f .n
 |false=> .no
def acR(f:TT)(d:E D4)(op:BinOp)(g:G)(a b:C)(t:Tr)(i:Ms)(k:G)(l:E G):Rs:=match FK f op g a b with
 |some (c,p)=>acQ d c p t i k l
 |none=>acP f d op g a b t i k l
def acS(f:TT)(d:E D4)(op:BinOp)(g:G)(x i:Pd)(t:Tr)(l:Ms)(k:G)(m:E G):Rs:=match lB t x,lB t i with
 |some (.c a),ad (.c b)=>acR f d op g a b t l k m
 |_,_=> .no
def acT(a:TT)(d:E D4)(b:G)(x i:Pd)(t:Tr)(f:Ms)(k:G)(g:E G):Rs:=match lB t x,lB t i with
 |some v,ad w=>Ox d (acC a b v w) t f k g
 |_,_=> .no
def acU(a:TT)(d:E D4)(b:G)(x:Pd)(f:G)(t:Tr)(g:Ms)(k:G)(i:E G):Rs:=match lB t x with
 |some v=>(match Nf a b v f with
  |some u=>wB d u t g (k+1) i .n
  |none=> .no)
 |none=> .no
def acV(d:E D4)(x:Pd)(a:G)(t:Tr)(b:Ms)(k:G)(f:E G):Rs:=match lB t x with
 |some v=>(match Ng v a with
  |some u=>wB d u t b (k+1) f .n
  |none=> .no)
 |none=> .no
def acW(a:TT)(d:E D4)(b:G)(x:Pd)(t:Tr)(f:Ms)(k:G)(g:E G):Rs:=match lB t x with
 |some v=>(match acD a b v with
  |some u=>wB d u t f (k+1) g .n
  |none=> .no)
 |none=> .no
def acX(b:TT)(d:E D4)(f:G)(x:Pd)(t:Tr)(a:Ms)(k:G)(g:E G):Rs:=match lB t x with
 |some v=>(match UW b a f v with
  |some (u,ids)=>wB d u t a (k+1) g<|.m ids []
  |none=> .no)
 |none=> .no
def acY(d a:G)(b:aA)(f:E C)(t:Tr)(g:Ms)(k:G)(i:E G):Rs:=match wz k f with
 |true=> .ok t (sF a b g) (k+1) (DB d a i)<|.m [a] [a]
 |false=> .no
def acZ(d:TT)(f:G)(g:G)(x i:Pd)(t:Tr)(a:Ms)(k:G)(l:E G):Rs:=match lB t x,lB t i with
 |some v,ad w=>(match UX d a g v w with
  |some (id,b,us)=>acY f id b us t a k l
  |none=> .no)
 |_,_=> .no
def aoB(g:TT)(n i:G)(d:aw (G×E D4))(b:E (G×E D4))(op:Op)(t:Tr)(f:Ms)(k:G)(l:E G):Rs:=match pE b t with
 |a=>UY g n i d b op t f k l a<|ve (Bp a) f
def ac0(a:ob)(b:G)(d:E D4)(f:jB)(args:E Pd)(t:Tr)(g:Ms)(k:G)(i:E G):Rs:=match zu t args with
 |some vs=>GP a b d f vs t g k i
 |none=> .no
def ac1(a:ob)(g:G)(d:E D4)(x:Pd)(args:E Pd)(t:Tr)(b:Ms)(k:G)(i:E G):Rs:=match zu t args with
 |some vs=>(match lB t x with
  |some (.c<|.V<|.func (.func f) ⟨[]⟩ ⟨[]⟩)=>GP a g d f vs t b k i
  |some (.c<|.X id)=>(match bO id b with
   |some (.eB f first caps)=>(match tM first,tM caps with
    |some us,ad ws=>GP a g d f (us++(vs++ws)) t b k i
    |_,_=> .no)
   |_=> .no)
  |_=> .no)
 |none=> .no
def sH(b:ob)(a:TT)(n g:G)(i:Ow):Tr->Ms->G->E G->Rs:=match i with
 | .mv d x=>UZ d x
 | .bin d op ty x y=>acS a d op ty x y
 | .idx d ty x i=>acT a d ty x i
 | .fad d ty x f=>acU a d ty x f
 | .ext d x j=>acV d x j
 | .len d ty x=>acW a d ty x
 | .ld d ty x=>acX a d ty x
 | .st ty x y=>acZ a g ty x y
 | .gen d sl op=>aoB a n g d sl op
 | .call d f args=>ac0 b g d f args
 | .acB d x args=>ac1 b g d x args
structure GI where
 g:aw (E D4×Bool)
 d:aw (E D4)
 i:Ow
def xV(a:ob)(m:TT)(n p:G)(x:GI)(t:Tr)(f:Ms)(k:G)(l:E G):Rs:=match x.g with
 |none=>sH a m n p x.i t f k l
 |some (s,want)=>(match kI s t with
  |some (.c<|.B b)=>(match b==want with
   |true=>sH a m n p x.i t f k l
   |false=>(match x.d with
    |some d=> .ok (GG d t) f (k+1) l .n
    |none=> .no))
  |_=> .no)
def xW(a:ob)(i:TT)(n m:G)(l:E GI):Tr->Ms->G->E G->Rs:=mh (motive:=λ_=>Tr->Ms->G->E G->Rs)
 (λt b k d=> .ok t b k d .n)
 (λx _ p t b k d=>match xV a i n m x t b k d with
  | .ok s f u g _=>p s f u g
  | .no=> .no) l
inductive Rd where
 |no
 |ok (t:Tr) (ms:Ms) (k:G) (a:E G) (fs:E Ft)
def zw(a:ob)(p:TT)(n s:G)(l:E GI):Tr->Ms->G->E G->E Ft->Rd:=mh (motive:=λ_=>Tr->Ms->G->E G->E Ft->Rd)
 (λt b k d g=> .ok t b k d g)
 (λx _ u t b k d g=>match xV a p n s x t b k d with
  | .ok v i z m f=>u v i z m<|f::g
  | .no=> .no) l
def GQ:E G->E G->Bool
 |[],_=>ah
 |x::a,l=>match DC x l with
  |true=>ae
  |false=>GQ a l
def Kb(k a:G)(b:E G):E G->Bool
 |[]=>ah
 |x::d=>match DC x b with
  |true=>ae
  |false=>(match fa k x&&dZ x a with
   |true=>ae
   |false=>Kb k a b d)
def Kc(k:G):E G->Bool
 |[]=>ah
 |x::a=>match dZ x k with
  |true=>ae
  |false=>Kc k a
def DE:Ft->Ft->Bool
 | .n,_=>ah
 |_,.n=>ah
 | .m b a,.m g f=>GQ a f||GQ a g||GQ b f
 | .m b a,.c k d wl=> !a.isEmpty||Kb k d wl b
 | .c k d wl,.m b a=>Kc k a||Kc d a||Kb k d wl b
 | .c _ _ _,.c _ _ _=>ae
def GR(a:E Ft):E (G×G)->Bool
 |[]=>ae
 | (i,b)::d=>match DE (a.getD i .n) (a.getD b .n)with
  |true=>ah
  |false=>GR a d
def q7:Op->E fE
 | .call ⟨.value a,args,_⟩=>a::args.toList
 |op=>op.operands.toList
def slotsOf:E fE->E G
 |[]=>[]
 | .tmp b::a=>b::slotsOf a
 |_::a=>slotsOf a
def GS(dep n:G):E G->aw (E<|G×E D4)
 |[]=>ad []
 |a::b=>(match dZ a n,GS dep n b with
  |true,ad l=>ad<|(a,dm dep a)::l
  |_,_=>none)
def OD(dep n:G)(d:aw G)(op:Op):aw Ow:=match GS dep n (slotsOf op.operands.toList)with
 |some sl=>(match d with
  |some d=>ad<|.gen (ad (d,dm dep d)) sl op
  |none=>ad<|.gen none sl op)
 |none=>none
def Kd(dep n:G)(d:aw G)(op:Op):aw Ow:=match d with
 |none=>(match op with
  | .store t x y=>(match jC dep n x,jC dep n y with
   |some p,ad q=>ad<|.st t p q
   |_,_=>none)
  |op=>OD dep n none op)
 |some d=>(match dZ d n with
  |false=>none
  |true=>(match op with
   | .move x=>(match jC dep n x with
    |some p=>ad<|.mv (dm dep d) p
    |none=>none)
   | .assign x=>(match jC dep n x with
    |some p=>ad<|.mv (dm dep d) p
    |none=>none)
   | .binOp o t x y _=>(match jC dep n x,jC dep n y with
    |some p,ad q=>ad<|.bin (dm dep d) o t p q
    |_,_=>none)
   | .indexAddr t x y=>(match jC dep n x,jC dep n y with
    |some p,ad q=>ad<|.idx (dm dep d) t p q
    |_,_=>none)
   | .fieldAddr t x f=>(match jC dep n x with
    |some p=>ad<|.fad (dm dep d) t p f
    |none=>none)
   | .extract x j=>(match jC dep n x with
    |some p=>ad<|.ext (dm dep d) p j
    |none=>none)
   | .load t x=>(match jC dep n x with
    |some p=>ad<|.ld (dm dep d) t p
    |none=>none)
   | .call ⟨.value<|.func f,args,_⟩=>(match zv dep n args.toList with
    |some ps=>ad<|.call (dm dep d) f ps
    |none=>none)
   | .call ⟨.value<|.tmp j,args,_⟩=>(match jC dep n (.tmp j),zv dep n args.toList with
    |some p,ad ps=>ad<|.acB (dm dep d) p ps
    |_,_=>none)
   | .call ⟨.builtin .len,⟨[x]⟩,⟨[t]⟩⟩=>(match jC dep n x with
    |some p=>ad<|.len (dm dep d) t p
    |none=>none)
   |op=>OD dep n (ad d) op))
def U0(dep n:G)(a:E a8)(b:a8):aw GI:=match Kd dep n b.dst b.op with
 |some i=>(match b.guard with
  |none=>ad ⟨none,none,i⟩
  |some (j,want)=>(match tG a j with
   |some f=>(match dZ f n with
    |true=>(match b.dst with
     |some d=>ad ⟨ad (dm dep f,want),ad<|dm dep d,i⟩
     |none=>ad ⟨ad (dm dep f,want),none,i⟩)
    |false=>none)
   |none=>none))
 |none=>none
def xX(dep n:G)(a:E a8):E a8->aw (E GI)
 |[]=>ad []
 |b::os=>(match U0 dep n a b,xX dep n a os with
  |some g,ad gs=>ad<|g::gs
  |_,_=>none)
def zy(a:E a8)(b:a8):Ks:=
 ((match b.guard with
  |none=>bN<|q7 b.op
  |some (j,_)=>(match tG a j with
   |some f=> .s f::bN (q7 b.op)
   |none=>bN<|q7 b.op)),
  match b.dst with
  |some d=>[.s d]
  |none=>[])
def pG(a:a8):Bool:=match a.dst with
 |none=>ae
 |some _=>(match a.op with
  | .move _=>ah
  | .assign _=>ah
  | .binOp _ _ _ _ _=>ah
  | .indexAddr _ _ _=>ah
  | .fieldAddr _ _ _=>ah
  | .extract _ _=>ah
  |_=>ae)
def GU(m a:G):E a8->G->E (G×G)
 |[],_=>[]
 |b::os,i=>if i<a then(if pG b&& !m.testBit i then(i,a)::GU m a os (i+1)else GU m a os (i+1))else[]
def GV(a:E a8):E G->E a8->G->E (G×G)
 |m::ms,d::os,b=>if pG d then GU m b a 0++GV a ms os (b+1)else GV a ms os (b+1)
 |_,_,_=>[]
def OE(dep n:G)(a:E a8)(b:Bool):aw (E GI×aw (E<|G×G)):=match xX dep n a a with
 |some gs=>(match b with
  |false=>ad (gs,none)
  |true=>if sd a (a.map<|zy a)=ae then ad (gs,ad<|GV a (sc a []) a 0)else none)
 |none=>none
def GW(i a:G):AV->AV
 | .c (.X k)=>if k=a then .c (.X i)else .c (.X k)
 |v=>v
def GX(i a:G):E (G×AV)->E (G×AV)
 |[]=>[]
 | (t,v)::b=>(t,GW i a v)::GX i a b
def DF(i a:G):E (G×aA)->E (G×aA)
 |[]=>[]
 | (k,b)::d=>(if k=a then i else k,b)::DF i a d
def OF(i a:G):AV->Bool
 | .c (.X k)=> !(k==i)
 |v=>v.ak.all λk=> !(k==i)&& !(k==a)
def OG(i a:G):E (G×AV)->Bool
 |[]=>ae
 | (_,v)::b=>OF i a v&&OG i a b
def GY(i a:G):E (G×aA)->Bool
 |[]=>ae
 | (k,b)::d=> !(k==i)&&(b.ak.all λk=> !(k==i)&& !(k==a))&&GY i a d
def ac2(i a t:G):∀l:E (G×AV),o t (GX i a l)=(o t l).map (GW i a)
 |[]=>rfl
 | (k,v)::b=>by simp[GX,o,ac2 i a t b];split<;>rfl
def ac3{i b t:G}{v:AV}:∀{l:E (G×AV)},OG i b l=ae->o t l=ad v->OF i b v=ae
 |[],_,a=>by simp[o]at a
 | (k,x)::d,a,hl=>by
  simp[OG]at a;simp[o]at hl;split at hl
  .cases hl;exact a.1
  .exact ac3 a.2 hl
def ac4{i d t:G}{b:aA}:∀{l:E (G×aA)},GY i d l=ae->o t l=ad b->t≠i/\∀k∈b.ak,k≠i/\k≠d
 |[],_,a=>by simp[o]at a
 | (k,x)::m,a,hl=>by
  simp[GY,nY]at a;simp[o]at hl;split at hl
  next f=>cases hl;subst f;exact⟨by simpa using a.1.1,λk g=>by simpa using a.1.2 k g⟩
  .exact ac4 a.2 hl
def U1{i m:G}(t:G){b:aA}:∀{l:E (G×aA)},GY i m l=ae->o t (DF i m l)=ad b->(t=i/\o m l=ad b)\/(t≠i/\t≠m/\o t l=ad b)
 |[],_,f=>by simp[DF,o]at f
 | (k,x)::u,f,hl=>by
  simp[GY]at f;have n:k≠i:=by simpa using f.1.1
  simp[DF,o]at hl;by_cases a:k=m
  .rw[q a]at hl;subst a;split at hl
   next e=>cases hl;exact .inl ⟨e.symm,by simp[o]⟩
   .rename_i d;rcases U1 t f.2 hl with⟨rfl,_⟩|⟨p,g,s⟩
    .exact aF J d
    .exact .inr ⟨p,g,by simp[o];rw[y (λ(e:k=t)=>g e.symm)];exact s⟩
  .rw[y a]at hl;split at hl
   next e=>cases hl;subst e;exact .inr ⟨n,a,by simp[o]⟩
   .rename_i d;rcases U1 t f.2 hl with⟨rfl,g⟩|⟨p,g,s⟩
    .exact .inl ⟨J,by simp[o,y a];exact g⟩
    .exact .inr ⟨p,g,by simp[o,y d];exact s⟩
def gZ i z{sl}{mem}{nx}{gd}(hi:dZ i (1000000*nx)=ae)(hs:OG i z sl=ae)(hm:GY i z mem=ae)(Tu:fa 1 i=ae:=by rfl):Wk ⟨sl,mem,nx,gd⟩ ⟨GX i z sl,DF i z mem,nx,gd⟩:=by
 intro F oL g W a h;have hi:i<1000000*nx:=by simpa[vd]using hi
 let M:Gh:=⟨g.H,λl=>if l=i then g.γ z else g.γ l⟩;have D:gN (λl=>l≠i) g M:=⟨cL.refl _,λl d=>y d⟩;have r:M.γ i=g.γ z:=q J;have K:∀l,l≠i->M.γ l=g.γ l:=λl d=>y d
 have hS:∀t w,St.kn ⟨GX i z sl,DF i z mem,nx,gd⟩ (.s t)=ad (.v w)->∃v,o t sl=ad v/\w=GW i z v:=by intro t w e;simp only[St.kn,ac2,Option.map_map,bY]at e;let ⟨v,hv,he⟩:=e;cases he;exact⟨v,hv,J⟩
 have U:∀t b,St.kn ⟨GX i z sl,DF i z mem,nx,gd⟩ (.m t)=ad (.b b)->(t=i/\o z mem=ad b)\/(t≠i/\t≠z/\o t mem=ad b):=by intro t b e;simp only[St.kn,bY]at e;let ⟨v,hv,he⟩:=e;cases he;exact U1 t hm hv
 have c:∀t u b,o t mem=ad b->gW F.N g W t b->M.γ u=g.γ t->gW F.N M W u b:=by
  intro t u b A G hγ;have B:=(ac4 hm A).2;cases b with
  |box E bz cs=>
   let ⟨k,vs,rest,e1,Q,O,V,e5,e6⟩:=G
   exact⟨k,vs,rest,sn,Q,a6.mono D (λl d=>(B l d).1) O,V,e5,by rw[hγ];exact e6⟩
  |vec E T ys=>
   rcases G with⟨e1,Q⟩|⟨k,cap,vs,e1,Q⟩
   .exact .inl ⟨sn,Q⟩
   .exact .inr ⟨k,cap,vs,sn,Q⟩
  |eB f first caps=>
   let ⟨us,ws,e1,Q,O⟩:=G
   exact⟨us,ws,sn,dK.mono D (λl d=>(B l<|eT _ d).1) Q,dK.mono D (λl d=>(B l<|gO _ d).1) O⟩
  |fz E cs=>
   let ⟨k,vs,rest,e1,Q,O,V,e5⟩:=G
   exact⟨k,vs,rest,sn,Q,a6.mono D (λl d=>(B l d).1) O,V,e5⟩
  |mp ka va ys=>
   let ⟨k,es,e1,Q,O,V⟩:=G
   exact⟨k,es,sn,Q,jr.mono D (λl d=>(B l d).1) O,V⟩
  |it m n seen=>
   let ⟨k,b,e1,e0,Q⟩:=G
   exact⟨k,b,sn,by rw[D.γ m (B m<|by simp[aA.ak]).1];exact e0,Q⟩
 have p:∀t b,o t mem=ad b->St.kn ⟨sl,mem,nx,gd⟩ (.m t)=ad (.b b):=λt b A=>by simp[St.kn,A]
 refine⟨M,h.size,h.defers,?_,?_,?_,?_,?_,h.sub,h.below,h.le,h.fresh,λl d=>⟨(h.fT l d).1,by have:=c7 Tu;rw[K l Y];exact(h.fT l d).2⟩⟩
 .intro t w e;obtain⟨v,hv,rfl⟩:=hS t w e;have G:=h.dW t v si;have I:=ac3 hs hv;unfold GW;split
  .rename_i k;have Dv:k≠i:=by simpa[OF]using I
   have Z:a.tmps.getD t undef=g.γ k:=G;split
   next e'=>subst e';show _=M.γ i;rw[r];exact Z
   .show _=M.γ k;rw[K k Dv];exact Z
  .rename_i eZ;refine bh.mono D (λl d=>?_) G;unfold OF at I;split at I
   next k=>exact aF J<|eZ k
   .have:=(nY.1 I) l d;simp at this;exact this.1
 .intro t b e;rcases U t b e with⟨rfl,A⟩|⟨R,h2,A⟩
  .exact c z t b A (h.cM z b<|p z b A) r
  .exact c t t b A (h.cM t b<|p t b A)<|K t R
 .intro t u b P k e e' S X;rcases U t b e with⟨rfl,A⟩|⟨R,h2,A⟩<;>rcases U u P e' with⟨rfl,L⟩|⟨h1',Gw,L⟩
  .rfl
  .rw[r]at S;rw[K u h1']at X;exact aF (h.inj z u b P k (p _ _ A) (p _ _ L) S X)<|λe=>Gw e.symm
  .rw[r]at X;rw[K t R]at S;exact aF (h.inj t z b P k (p _ _ A) (p _ _ L) S X) h2
  .rw[K t R]at S;rw[K u h1']at X;exact h.inj t u b P k (p _ _ A) (p _ _ L) S X
 .intro key x e l d;cases key with
  |s t=>
   cases x with
   |b P=>simp only[St.kn,bY]at e;let ⟨_,_,he⟩:=e;cases he
   |v w=>
    obtain⟨v,hv,rfl⟩:=hS t w e
    have Ke:=h.ak (.s t) (.v v) si
    have d:l∈(GW i z v).ak:=d
    unfold GW at d
    split at d
    .split at d
     .simp only[AV.ak,C.ak,iW]at d;subst d;exact hi
     .exact Ke l d
    .exact Ke l d
  |m t=>
   cases x with
   |v w=>simp only[St.kn,bY]at e;let ⟨_,_,he⟩:=e;cases he
   |b P=>
    rcases U t P e with⟨rfl,A⟩|⟨R,h2,A⟩
    .exact h.ak (.m z) (.b P) (p z P A) l d
    .exact h.ak (.m t) (.b P) (p t P A) l d
 .intro t x e;cases x with
  |v w=>simp only[St.kn,bY]at e;let ⟨_,_,he⟩:=e;cases he
  |b P=>
   rcases U t P e with⟨rfl,A⟩|⟨R,h2,A⟩
   .exact hi
   .exact h.dX t _<|p t P A
def Wk.trans{a b d}(i:Wk a b)(k:Wk b d):Wk a d:=λF f g W ac l=>by let ⟨m,n⟩:=i F f g W ac l;exact k F f m W ac n
def GZ{a b:Type}(f:a->b->Bool):E a->E b->Bool
 |[],[]=>ae
 |x::xs,d::g=>f x d&&GZ f xs g
 |_,_=>ah
def mj.wC:ET->ET->Bool
 | .int k,.int a=>decide<|k=a
 | .bool,.bool=>ae
 | .z,.z=>ae
 | .q,.q=>ae
 | .sl T,.sl b=>mj.wC T b
 | .pr A B,.pr d f=>mj.wC A d&&mj.wC B f
 |_,_=>ah
def mj:(T d:ET)->T.den->d.den->Bool
 | .int k,.int g,(n:Int),(m:Int)=>decide (k=g)&&decide (n=m)
 | .bool,.bool,(a:Bool),(b:Bool)=>a==b
 | .z,.z,(n:Int),(m:Int)=>decide<|n=m
 | .q,.q,(a:Rat),(b:Rat)=>decide (a.num=b.num)&&decide (a.den=b.den)
 | .sl T,.sl d,(xs:E T.den),(i:E d.den)=>mj.wC T d&&GZ (λx f=>mj T d x f) xs i
 | .pr A B,.pr l p,x,f=>mj A l x.1 f.1&&mj B p x.2 f.2
 |_,_,_,_=>ah
def aoC:∀{T a:ET},mj.wC T a=ae->T=a:=by
 intro T;induction T with
 |int k=>intro a h;cases a<;>simp[mj.wC]at h;rw[h]
 |bool=>intro a h;cases a<;>simp[mj.wC]at h;rfl
 |z=>intro a h;cases a<;>simp[mj.wC]at h;rfl
 |q=>intro a h;cases a<;>simp[mj.wC]at h;rfl
 |sl T f=>intro a h;cases a<;>simp[mj.wC]at h;rw[f h]
 |pr A B b d=>intro a h;cases a<;>simp[mj.wC]at h;rw[b h.1,d h.2]
def ac6{b:Type}{f:b->b->Bool}(i:∀x d,f x d=ae->x=d):∀{xs g:E b},GZ f xs g=ae->xs=g
 |[],[],_=>rfl
 |x::xs,d::g,a=>by simp[GZ]at a;rw[i _ _ a.1,ac6 i a.2]
 |[],_::_,a=>by simp[GZ]at a
 |_::_,[],a=>by simp[GZ]at a
def aoD:∀(T:ET)(x a:T.den),mj T T x a=ae->x=a:=by
 intro T;induction T with
 |int k=>intro x a h;simp only[mj,cP,nr]at h;exact h.2
 |bool=>intro x a h;exact dw h
 |z=>intro x a h;exact aV h
 |q=>intro x a h;simp only[mj,cP,nr]at h;exact Rat.ext h.1 h.2
 |sl T f=>intro x a h;simp only[mj,cP]at h;exact ac6 f h.2
 |pr A B b d=>intro x a h;simp only[mj,cP]at h;exact Prod.ext (b _ _ h.1)<|d _ _ h.2
def G0{a:Type}(f:a->E C->Bool)(n:G):E C->E a->Bool
 |_,[]=>ae
 |cs,x::xs=>f x (r n cs)&&G0 f n (az n cs) xs
def aoE(a:G):aw G->Bool
 |none=>ae
 |some b=>fa a b
def Kf(a:G->aw aA)(T:ET)(f:T.den->E C->Bool)(b:C)(xs:E T.den):Bool:=
 match b with
 | .S d g=>mj (.sl d) (.sl T) g xs
 | .V (.slice none 0 0)=>xs.isEmpty
 | .L id off len cap=>jk len (Z xs)&&fa (len*T.n) 140737488355328&&aoE len cap&&(match a id with
  |some (.box _ _ cs)=>G0 f T.n (az off cs) xs
  |some (.fz _ cs)=>G0 f T.n (az off cs) xs
  |_=>ah)
 |_=>ah
def Kg(a:G->aw aA)(z:Int):E C->Bool
 |[.B s,b]=>(s==cD z)&&Kf a (.int .u32) (λn d=>match d with|[.I .u32 m]=>decide (m=n)|_=>ah) b (fo z)
 |_=>ah
def xY(d:G->aw aA):(T:ET)->T.den->E C->Bool
 | .int k,n,a=>(match a with|[.I g m]=>decide (g=k)&&decide (m=n)|_=>ah)
 | .bool,b,a=>(match a with|[.B i]=>i==b|_=>ah)
 | .z,z,a=>Kg d z a
 | .q,f,a=>Kg d f.num (r 2 a)&&Kg d (f.den:Int) (az 2 a)
 | .sl T,xs,a=>(match a with|[l]=>Kf d T (λx a=>xY d T x a) l xs|_=>ah)
 | .pr A B,x,a=>xY d A x.1 (r A.n a)&&xY d B x.2 (az A.n a)
def OH(a:G->aw aA):C->C->Bool
 | .B b,.B d=>b==d
 | .I k n,.I f g=>decide (k=f)&&decide (n=g)
 |i,.S T xs=>Kf a T (xY a T) i xs
 |_,.any=>ae
 |_,_=>ah
def xZ(a:G->aw aA):E C->E C->Bool
 |[],[]=>ae
 |b::cs,d::ds=>OH a b d&&xZ a cs ds
 |_,_=>ah
def G3(a:G->aw aA):E (Bool×E C)->E (Bool×E C)->Bool
 |[],[]=>ae
 | (b,cs)::d,(f,ds)::g=>(b==f)&&xZ a cs ds&&G3 a d g
 |_,_=>ah
def DG(b:G->aw aA):AV->AV->Bool
 | .c x,.c d=>OH b x d
 | .a cs,.a ds=>xZ b cs ds
 | .t f,.t g=>G3 b f g
 |_,_=>ah
section
variable{F:dO}{g:Gh}{W:World}{lk:G->aw aA}
structure x5(f:FH)(g:Gh)(W:World)(lk:G->aw aA):Prop where
 le:cL g.H f
 cO:∀a E d,((∃sz,lk a=ad (.box E sz d))\/lk a=ad (.fz E d))->∃b,∃vs rest:List aT,El.cO (g.γ a)=ad b/\(∀o,f b o=W.cell? ⟨b,o,none⟩)/\W.heap[b]? =ad (.cells (vs++rest).toArray E (0,0))/\a6 g d vs
variable{HF:FH}
def ac7{b:Type}{R:b->E aT->Prop}{f:b->E C->Bool}{n:G}(d:∀x a vs,f x a=ae->a6 g a vs->R x vs)(k:∀x vs,R x vs->Z vs=n):∀(xs:E b){a:E C}{vs:E aT},G0 f n a xs=ae->a6 g a vs->∀i(h:i<Z xs),R xs[i] ((az (i*n) vs).take n)
 |[],_,_,_,_,i,h=>by simp at h
 |x::xs,a,vs,hm,hr,i,h=>by
  simp[G0]at hm;cases i with
  |zero=>simp[so,sr,xC];exact d _ _ _ hm.1<|hr.take n
  |succ i=>
   have:=ac7 d k xs hm.2 (hr.drop n) i fg
   rw[se,(Ja:n+i*n=(i+1)*n)]at this
   simpa using this
def U2(B:x5 HF g W lk){T}{f:T.den->E C->Bool}(hf:∀x d vs,f x d=ae->a6 g d vs->dq HF T x vs){k}{xs}{v}(l:Kf lk T f k xs=ae)(s:de g k v):nl (dq HF T) T.n HF xs v:=by
 unfold Kf at l;split at l
 .rename_i D q;have r:D=T:=by simp only[mj,cP]at l;exact aoC l.1
  subst r;have:=aoD (.sl D) q xs l;subst this;exact nl.mono s B.le<|λx d=>dq.mono B.le D x d
 .have:xs=[]:=List.isEmpty_iff.1 l;subst this;simp only[de]at s;exact⟨none,0,s,aL _,au,.inl J⟩
 .rename_i H a w K;simp only[cP]at l;let ⟨⟨⟨N,P⟩,y⟩,m⟩:=l;have N:=mi N;subst N;have m:∃p d,((∃sz,lk H=ad (.box p sz d))\/lk H=ad (.fz p d))/\G0 f T.n (az a d) xs=ae:=by
   split at m
   next p sz d t=>exact⟨p,d,.inl ⟨sz,t⟩,m⟩
   next p d t=>exact⟨p,d,.inr t,m⟩
   .cases m
  .let ⟨p,d,t,m⟩:=m;let ⟨b,vs,rest,z,G,hh,Q⟩:=B.cO H p d t;have u:=ac7 (R:=dq HF T) hf (λx vs h=>dq.length T x vs h) xs m<|Q.drop a;have X:∃k,v= .slice (ad ⟨b,a,none⟩) (Z xs) k/\Z xs<=k:=by
    cases K with
    |none=>
     let ⟨I,L,k,A,e,M⟩:=s
     rw[A]at z
     simp only[El.cO,aq]at z
     subst z
     exact⟨k,by rw[I];exact e,M⟩
    |some k=>
     let ⟨L,A,e⟩:=s
     rw[z]at A
     cases A
     exact⟨k,e,c7 y⟩
   let ⟨k,X,hc⟩:=X;refine⟨ad ⟨b,a,none⟩,k,X,hc,c7 P,?_⟩;by_cases hx:xs=[]
   .exact .inl hx
   .refine .inr ⟨b,a,J,λi o=>⟨_,dq.length T _ _<|u i o,u i o,λj O=>?_⟩⟩;rw[G];simp only[iC,Dg]at O;simp only[tD,vV];rw[(Y:a+i*T.n+j=a+(i*T.n+j))];simp only[Jh,hh,vR];rw[C6 Y];exact df Y
 .cases l
def U3(n:x5 HF g W lk){z}{i}{vs}(a:Kg lk z i=ae)(p:a6 g i vs):tu HF z vs:=by
 unfold Kg at a;split at a
 .rename_i b c;simp only[cP]at a;obtain⟨v,r,rfl,d,s,t,rfl,f,m⟩:=p;simp only[a6]at m;simp only[de]at d;subst m d;rw[dw a.1];refine⟨s,J,U2 (T:= .int .u32) n ?_ a.2 f⟩;intro x i vs k l;split at k
  .obtain⟨u,r,rfl,d,f⟩:=l;simp only[a6]at f;simp only[de]at d;subst f d;rw[aV k];rfl
  .cases k
 .cases a
def aoF(l:x5 HF g W lk):∀(T:ET)(x:T.den)(d:E C)(vs:E aT),xY lk T x d=ae->a6 g d vs->dq HF T x vs:=by
 intro T;induction T with
 |int k=>
  intro x d vs a b
  simp[xY]at a
  split at a
  .obtain⟨u,s,rfl,i,f⟩:=b;simp[a6]at f;simp[de]at i;simp at a;subst f i;rw[a.1,a.2];rfl
  .cases a
 |bool=>
  intro x d vs a b
  simp[xY]at a
  split at a
  .obtain⟨u,s,rfl,i,f⟩:=b;simp[a6]at f;simp[de]at i;subst f i;rw[dw a];rfl
  .cases a
 |z=>intro x d vs a b;exact U3 l a b
 |q=>
  intro x d vs a b
  simp[xY]at a
  exact⟨r 2 vs,az 2 vs,(uX 2 vs).symm,U3 l a.1<|b.take 2,U3 l a.2<|b.drop 2⟩
 |sl T t=>
  intro x d vs a b
  simp[xY]at a
  split at a
  .obtain⟨u,s,rfl,i,f⟩:=b;simp[a6]at f;subst f;exact⟨u,J,U2 l t a i⟩
  .cases a
 |pr A B m p=>
  intro x d vs a b
  simp[xY]at a
  exact⟨r A.n vs,az A.n vs,(uX _ vs).symm,m _ _ _ a.1<|b.take _,p _ _ _ a.2<|b.drop _⟩
def U4(f:x5 HF g W lk){i d}{v}(a:OH lk i d=ae)(b:de g i v):de ⟨HF,jP⟩ d v:=by
 unfold OH at a;split at a
 .rw[<-dw a];exact b
 .simp at a;rw[<-a.1,<-a.2];exact b
 .exact U2 f (aoF f _) a b
 .trivial
 .cases a
def U5(i:x5 HF g W lk):∀{a b:E C}{vs:E aT},xZ lk a b=ae->a6 g a vs->a6 ⟨HF,jP⟩ b vs
 |[],[],_,_,f=>f
 |n::a,d::b,_,hm,f=>by simp[xZ]at hm;obtain⟨v,k,rfl,l,m⟩:=f;exact⟨v,k,J,U4 i hm.1 l,U5 i hm.2 m⟩
 |[],_::_,_,hm,_=>by simp[xZ]at hm
 |_::_,[],_,hm,_=>by simp[xZ]at hm
def ac8(f:x5 HF g W lk):∀{i k:E (Bool×E C)}{vs:E aT},G3 lk i k=ae->dK g i vs->dK ⟨HF,jP⟩ k vs
 |[],[],_,_,l=>l
 | (b,cs)::i,(p,ds)::k,_,hm,l=>by
  simp only[G3,cP]at hm;let ⟨⟨m,hc⟩,ht⟩:=hm;have m:=dw m;subst m;obtain⟨v,r,rfl,a,n⟩:=l;refine⟨v,r,J,?_,ac8 f ht n⟩;cases b with
  |true=>let ⟨us,e,a⟩:=a;exact⟨us,e,U5 f hc a⟩
  |false=>
   match cs,ds,hc,a with
   |[c],[d],hc,a=>simp only[xZ,cP]at hc;exact U4 f hc.1 a
   |[c],[],hc,_=>simp[xZ]at hc
   |[c],_::_::_,hc,_=>simp[xZ]at hc
   |[],_,_,a=>exact a.elim
   |_::_::_,_,_,a=>exact a.elim
 |[],_::_,_,hm,_=>by simp[G3]at hm
 |_::_,[],_,hm,_=>by simp[G3]at hm
def ac9(b:x5 HF g W lk){x d}{v}(a:DG lk x d=ae)(f:bh g x v):bh ⟨HF,jP⟩ d v:=by
 cases x<;>cases d<;>simp[DG]at a<;>try cases a
 .exact U4 b a f
 .let ⟨vs,e,h⟩:=f;exact⟨vs,e,U5 b a h⟩
 .let ⟨vs,e,h⟩:=f;exact⟨vs,e,ac8 b a h⟩
end
def tN(a:G->aw aA):E AV->E AV->Bool
 |[],[]=>ae
 |x::xs,b::d=>DG a x b&&tN a xs d
 |_,_=>ah
def ac'{d:G->aw aA}{f:FH}{g:Gh}{W:World}(i:x5 f g W d):∀{xs a:E AV}{vs:E aT},tN d xs a=ae->fV g xs vs->fV ⟨f,jP⟩ a vs
 |[],[],_,_,b=>b
 |x::xs,n::a,_,hm,b=>by simp[tN]at hm;obtain⟨v,k,rfl,l,m⟩:=b;exact⟨v,k,J,ac9 i hm.1 l,ac' i hm.2 m⟩
 |[],_::_,_,hm,_=>by simp[tN]at hm
 |_::_,[],_,hm,_=>by simp[tN]at hm
def ada{b:G->aw aA}:∀{xs a:E AV},tN b xs a=ae->Z a=Z xs
 |[],[],_=>rfl
 |x::xs,d::a,hm=>by simp[tN]at hm;simp[ada hm.2]
 |[],_::_,hm=>by simp[tN]at hm
 |_::_,[],hm=>by simp[tN]at hm
section
variable{P:bW}
def U6{g}:∀(vs:E AV)(a:E aT)(i:G)(all:E aT),Z a=Z vs->(∀d,d<Z a->all[i+d]? =a[d]?)->(∀t v,o t (dT i vs)=ad v->bh g v (all.toArray.getD t undef))->fV g vs a:=by
 intro vs;induction vs with
 |nil=>intro a i all hl _ _;exact gx vU
 |cons x vs z=>
  intro a i all hl b n
  cases a with
  |nil=>simp at hl
  |cons u a=>
   refine⟨u,a,J,?_,z a (i+1) all vU ?_ ?_⟩
   .have A:=n i x (by simp[dT,o]);have p:=b 0 au;simp[jZ,oG]at p;simpa[p]using A
   .intro d hj;have:=b (d+1) qh;rw[(Y:i+1+d=i+(d+1))];simpa using this
   .intro t v s;refine n t v ?_;have k:∀(l:E AV)(f:G),i<f->∀v,o i (dT f l)=ad v->False:=by
     intro l;induction l with
     |nil=>intro f _ v h;simp[dT,o]at h
     |cons y l m=>
      intro f B v h
      simp[dT,o]at h
      split at h
      .omega
      .exact m (f+1) Y v h
    simp[dT,o];split
    next e=>subst e;exact(k vs (i+1) Y v s).elim
    .exact s
def G4:aA->aA
 | .box a _ cs=> .fz a cs
 |b=>b
def adb b:(G4 b).ak=b.ak:=by cases b<;>rfl
open Classical in
def aoG{f}{vs A}{a7}(cA:w P f A a7)(hm:cX A=[]){fm Q}(D:E G)(hD:∀d,o d Q=if d∈D then(o d fm).map G4 else o d fm){lk:G->aw aA}(q8:∀d b,lk d=ad b->d∈D/\o d fm=ad b)(ade:tN lk vs A=ae) k:CX P f vs fm k a7 Q k:=by
 refine⟨cA.call,aL _,?_⟩;intro F g W us hn lA p;have zz:fV g vs us:=U6 vs us 0 us lA (λj hj=>au) (λt v ht=>p.dW t v<|by simp[St.kn,ht]);have uM:∀d,St.kn ⟨dT 0 vs,fm,0,[]⟩ (.m d)=(o d fm).map .b:=λ_=>rfl
 let B:G->Prop:=λb=>∃d X sz c,d∈D/\o d fm=ad (.box X sz c)/\cO (g.γ d)=ad b
 let q:FH:=λb L=>if B b then W.cell? ⟨b,L,none⟩else g.H b L
 have hBz:∀b,B b->(∀L,g.H b L=none)/\F.N b:=by rintro b ⟨d,X,sz,c,_,hl,K⟩;let ⟨b',ws,rest,R,e2,e3,e4,e5,_⟩:=p.cM d (.box X sz c) Bq;rw[K]at R;cases R;exact⟨e5,e4⟩
 have Z:cL g.H q:=by
  intro b L v hv;by_cases e:B b
  .rw[(hBz b e).1]at hv;cases hv
  .simp only[q,e,b8];exact hv
 have ok:x5 q g W lk:=by
  refine⟨Z,λd X c hl=>?_⟩;rcases hl with⟨sz,hl⟩|hl
  .let ⟨l,hl⟩:=q8 d _ hl;let ⟨b,ws,rest,R,e2,e3,e4,e5,_⟩:=p.cM d (.box X sz c) Bq;have hB:B b:=⟨d,X,sz,c,l,hl,R⟩;exact⟨b,ws,rest,R,λL=>by simp only[q,hB,cz],e2,e3⟩
  .let ⟨l,hl⟩:=q8 d _ hl;let ⟨b,ws,rest,R,e2,e3,e4,e5⟩:=p.cM d (.fz X c) Bq;have S:¬B b:=by rintro⟨M,E',sz,cs',adg,C,U⟩;have:=p.inj d M (.fz X c) (.box E' sz cs') b Bq (by rw[uM,C];rfl) R U;subst this;rw[hl]at C;cases C
   exact⟨b,ws,rest,R,λL=>by simp only[q,S,b8,e5];simp[Jh,e2],e2,e3⟩
 have V:=ac' ok ade zz;have qZ:Sub q W:=by
  intro b L v hv;by_cases e:B b
  .simp only[q,e,cz]at hv;exact hv
  .simp only[q,e,b8]at hv;exact p.sub b L v hv
 have hlen:=ada ade;have h2:aR F (·<k) (St.kn ⟨dT 0 A,Q,0,[]⟩) ⟨q,g.γ⟩ W (n7 us):=by
  have hM:∀d b,St.kn ⟨dT 0 A,Q,0,[]⟩ (.m d)=ad (.b b)->∃i,o d fm=ad i/\((d∉D/\b=i)\/(d∈D/\b=G4 i)):=by
   intro d b K;have e:St.kn ⟨dT 0 A,Q,0,[]⟩ (.m d)=(o d Q).map .b:=rfl;rw[e,hD]at K;split at K
   .rename_i hd;cases hl:o d fm with
    |none=>rw[hl]at K;cases K
    |some i=>rw[hl]at K;cases K;exact⟨i,J,.inr ⟨hd,J⟩⟩
   next lv=>simp only[bY]at K;let ⟨x,O,he⟩:=K;cases he;exact⟨_,O,.inl ⟨lv,J⟩⟩
  have I:∀d b,St.kn ⟨dT 0 A,Q,0,[]⟩ (.m d)=ad (.b b)->∃i,o d fm=ad i/\b.ak=i.ak:=by
   intro d b K;let ⟨i,hl,cA⟩:=hM d b K;refine⟨i,hl,?_⟩;rcases cA with⟨_,rfl⟩|⟨_,rfl⟩
   .rfl
   .exact adb i
  refine⟨p.size,p.defers,?_,?_,?_,?_,?_,qZ,p.below,p.le.trans Z,?_,p.fT⟩
  .intro t v ht;simp only[St.kn,bY]at ht;let ⟨x,O,he⟩:=ht;cases he;let ⟨_,u,hu,hr,I⟩:=me A us 0 V t v O;have zr:us[t]? =ad u:=v3;simp only[n7,l7,vR,zr,tK];refine hr.jh (T8.2<|λd l=>?_) (cL.refl _) g.γ;have:=I d l;rw[hm]at this;cases this
  .intro d b K;let ⟨i,hl,aoI⟩:=hM d b K;have Y:St.kn ⟨dT 0 vs,fm,0,[]⟩ (.m d)=ad (.b i):=Bq;have Bj:=p.cM d i Y;have z:(∀X sz c,i= .box X sz c->d∉D)->gW F.N ⟨q,g.γ⟩ W d i:=by
    intro lz;refine Bj.wj (known:=(·<k)) ⟨Z,λ_ _=>rfl⟩ (p.dX d _ Y) (λj hj=>p.ak _ _ Y j hj)<|λkk qj=>⟨J,λL=>?_⟩;have S:¬B kk:=by rintro⟨M,X,sz,c,adg,C,U⟩;have:=p.inj d M i (.box X sz c) kk Y (by rw[uM,C];rfl) qj U;subst this;rw[hl]at C;cases C;exact lz X sz c J adg
    simp only[q,S,b8]
   rcases aoI with⟨lv,rfl⟩|⟨hd,rfl⟩
   .exact z<|λ_ _ _ _=>lv
   .cases i with
    |box X sz c=>
     let ⟨b,ws,rest,R,e2,e3,e4,e5,_⟩:=Bj
     have hB:B b:=⟨d,X,sz,c,hd,hl,R⟩
     exact⟨b,ws,rest,R,e2,a6.mono (known:=(·<k)) (g:=g) (g':=⟨q,g.γ⟩) ⟨Z,λ_ _=>rfl⟩ (λj hj=>p.ak _ _ Y j hj) e3,e4,λL=>by simp only[q,hB,cz];simp[Jh,e2]⟩
    |vec X T xs=>exact z<|λ_ _ _ e=>x6
    |eB f a b=>exact z<|λ_ _ _ e=>x6
    |fz X c=>exact z<|λ_ _ _ e=>x6
    |mp ka va xs=>exact z<|λ_ _ _ e=>x6
    |it m n seen=>exact z<|λ_ _ _ e=>x6
  .intro d M b b' kk K U h1 h2;let ⟨i,hl,_⟩:=hM d b K;let ⟨b1,C,_⟩:=hM M b' U;exact p.inj d M i b1 kk Bq (by rw[uM,C];rfl) h1 h2
  .intro key x O d l;cases key with
   |m j=>
    cases x with
    |b b'=>
     let ⟨i,hl,oN⟩:=I j b' O
     have l:d∈b'.ak:=l
     rw[oN]at l
     exact p.ak (.m j) (.b i) Bq d l
    |v v'=>simp only[St.kn,bY]at O;let ⟨_,_,he⟩:=O;cases he
   |s t=>
    simp only[St.kn,bY]at O
    let ⟨y,hy,he⟩:=O
    subst he
    let ⟨_,_,_,_,h6⟩:=me A us 0 V t y hy
    have:=h6 d l
    rw[hm]at this
    cases this
  .intro d x O;cases x with
   |b b'=>let ⟨i,hl,_⟩:=I d b' O;exact p.dX d (.b i) Bq
   |v v'=>simp only[St.kn,bY]at O;let ⟨_,_,he⟩:=O;cases he
  .intro b L K lz;have S:¬B b:=by
    intro e;rcases(hBz b e).2 with h1|h1
    .omega
    .exact lz h1
   simp only[q,S,b8];exact p.fresh b L K lz
 exact(an5 cA hm Q k).spec F ⟨q,g.γ⟩ W us (by rw[hlen];exact hn) (by rw[hlen];exact lA) h2
end
inductive Rc where
 |no
 |dQ (t:Tr) (ms:Ms) (k:G) (a:E G)
 |iE (b:G) (t:Tr) (ms:Ms) (k:G) (a:E G)
 |ret (t:Tr) (ms:Ms) (k:G) (a:E G)
def fH(n:G):G:=if n<=16 then 2 else if n<=64 then 3 else if n<=256 then 4 else if n<=1024 then 5 else 6
def oO(dep:G)(vs:E AV):G->Tr->Tr:=mh (motive:=λ_=>G->Tr->Tr) (λ_ t=>t)
 (λv _ a i t=>a (i+1)<|kY (dm dep i) v t) vs
def Kh(b:TT)(dep n:G)(t:Tr)(d:Ms):A9->aw AV
 | .tmp a=>(match dZ a n with
  |true=>kI (dm dep a) t
  |false=>none)
 | .cell a ty=>(match dZ a n with
  |true=>(match kI (dm dep a) t with
   |some (.c<|.P id off)=>(match bO id d,qf b ty with
    |some (.box _ _ cs),ad (sz,f)=>pn cs off sz f
    |_,_=>none)
   |_=>none)
  |false=>none)
def OI(a:TT)(dep n:G)(t:Tr)(b:Ms):E A9->aw (E<|Bool×E C)
 |[]=>ad []
 |x::xs=>(match Kh a dep n t b x with
  |some v=>(match sj v,OI a dep n t b xs with
   |some s,ad d=>ad<|s::d
   |_,_=>none)
  |none=>none)
def G5(a:TT)(dep n:G)(t:Tr)(b:Ms):E A9->aw AV
 |[x]=>Kh a dep n t b x
 |xs=>(match OI a dep n t b xs with
  |some d=>ad<|.t d
  |none=>none)
def zA:G->Mem->E G->Mem->Mem
 |0,_,_,acc=>acc
 |_+1,_,[],acc=>acc
 |f+1,own,id::todo,acc=>match oa id acc with
  |some _=>zA f own todo acc
  |none=>(match oa id own with
   |some b=>zA f own (b.ak++todo)<|(id,b)::acc
   |none=>zA f own todo acc)
def DH(k:G)(a:Ms):E G->Bool
 |[]=>ae
 |id::b=>(match fa k id with
  |true=>DH k a b
  |false=>(match bO id a with
   |some _=>DH k a b
   |none=>ah))
def OJ(k:G)(a:Ms):Mem->Bool
 |[]=>ae
 | (id,b)::d=>(match fa k id with
  |true=>(match DH k a b.ak with
   |true=>OJ k a d
   |false=>ah)
  |false=>ah)
def G6(k:G)(d a:Ms):E G->Bool
 |[]=>ae
 |id::f=>(match bO id a with
  |some b=>(match DH k d b.ak with
   |true=>G6 k d a f
   |false=>ah)
  |none=>G6 k d a f)
def U7(k:G)(l:Mem):Bool:=mh (motive:=λ_=>Bool) ae (λh _ a=>Bm (motive:=λ_=>Bool) ah a<|fa k h.1) l
def Br(a:Mem):Ms->Ms
 |m::b=>(a++m)::b
 |[]=>[a]
def Ki(a:Ms):E G->E G
 |[]=>[]
 |id::d=>(match bO id a with
  |some b=>b.ak++Ki a d
  |none=>Ki a d)
def leave(i:TT)(f:Func)(dep:G)(b:Ms)(k:G)(t:Tr)(a:Ms)(l:G)(d:E G):Cr:=match G5 i dep f.ntmps t a f.results.toList with
 |some r=>(match a with
  |own::rest=>(match zA 1000 own (r.ak++Ki rest d) []with
   |g=>(match DH k b r.ak&&OJ k b g&&G6 k b rest d&&U7 k own with
    |true=> .ok r (Br g rest) l d
    |false=> .no))
  |[]=> .no)
 |none=> .no
def Kj(a:Ms):G->E G->E G->E G
 |0,_,acc=>acc
 |_+1,[],acc=>acc
 |f+1,id::todo,acc=>match acc.any (jk id)with
  |true=>Kj a f todo acc
  |false=>(match bO id a with
   |some b=>Kj a f (b.ak++todo)<|id::acc
   |none=>Kj a f todo acc)
def lkS(D:E G)(b:Ms)(a:G):aw aA:=match D.any (jk a)with
 |true=>bO a b
 |false=>none
def x7:E G->Ms->Ms
 |[],ms=>ms
 |id::a,ms=>(match bO id ms with
  |some (.box b _ cs)=>x7 a<|sF id (.fz b cs) ms
  |_=>x7 a ms)
abbrev zB:=G->G->G->Code->Tr->Ms->G->E G->Rc
def vf(P:bW)(l:TT)(g:jB->E AV->Ms->aw (E AV×AV))(body:zB):ob:=λf vs a k=>
 match g f vs a with
 |some (d,r)=>(match Kj a 200 (cX vs) []with
  |D=>(match tN (lkS D a) vs d&&(cX d).isEmpty&&G6 k a (x7 D a) D with
   |true=> .ok r (x7 D a) k D
   |false=> .no))
 |none=>(match P.funcs[f]? with
  |some fn=>(match fn.body with
   |some c=>(match fn.name != "runtime.NumGoroutine" &&fa (Z vs) fn.ntmps&&fa fn.ntmps 4096 with
    |true=>(match body (fH fn.ntmps) fn.ntmps k c (oO (fH fn.ntmps) vs 0 .e) ([]::a) k []with
     | .dQ t b i wl=>leave l fn (fH fn.ntmps) a k t b i wl
     | .ret t b i wl=>leave l fn (fH fn.ntmps) a k t b i wl
     |_=> .no)
    |false=> .no)
   |none=> .no)
  |none=> .no)
def aoJ(d:zB)(dep n f:G)(x g:Code)(t:Tr)(i:Ms)(k:G)(l:E G):Rc:=match d dep n f x t i k l with
 | .dQ t1 a m b=>d dep n f g t1 a m b
 |r=>r
def aoK(a:zB)(dep n d:G)(i:fE)(x l:Code)(t:Tr)(f:Ms)(k:G)(g:E G):Rc:=match jC dep n i with
 |some p=>(match lB t p with
  |some (.c<|.B b)=>(match b with
   |true=>a dep n d x t f k g
   |false=>a dep n d l t f k g)
  |_=> .no)
 |none=> .no
def aoL(g:zB)(dep n i:G)(l:G)(x:Code)(t:Tr)(m:Ms)(k:G)(p:E G):Rc:=match g dep n i x t m k p with
 | .iE a t1 b f d=>(match jk a l with
  |true=> .dQ t1 b f d
  |false=> .iE a t1 b f d)
 |r=>r
def aoM(d:zB)(dep n f:G)(x:Code)(t:Tr)(g:Ms)(k:G)(i:E G):Rc:=match d dep n f x t g k i with
 | .dQ t1 a l b=>d dep n f (.loop x) t1 a l b
 |r=>r
def rT:Rs->Rc
 | .ok t1 a d b _=> .dQ t1 a d b
 | .no=> .no
def rD(ps:E (G×G)):Rd->Rc
 | .ok t1 a d b fs=>(match GR fs.reverse ps with
  |true=> .dQ t1 a d b
  |false=> .no)
 | .no=> .no
def aoN(a:ob)(f:TT)(dep n g:G)(d:E a8)(b:Bool)(t:Tr)(i:Ms)(k:G)(l:E G):Rc:=match OE dep n d b with
 |some (gs,none)=>rT<|xW a f n g gs t i k l
 |some (gs,ad ps)=>rD ps<|zw a f n g gs t i k l []
 |none=> .no
def aoO(P:bW)(g:TT)(d:jB->E AV->Ms->aw (E AV×AV))(a:zB)(dep n b:G):Code->Tr->Ms->G->E G->Rc
 | .skip=> .dQ
 | .exit id=> .iE id
 | .ret=> .ret
 | .seq x f=>aoJ a dep n b x f
 | .cond i x f=>aoK a dep n b i x f
 | .block id x=>aoL a dep n b id x
 | .loop x=>aoM a dep n b x
 | .region _ ops draw=>aoN (vf P g d a) g dep n b ops.toList draw
 |_=>λ_ _ _ _=> .no
def jD(P:bW)(d:TT)(b:jB->E AV->Ms->aw (E AV×AV))(a:G):zB:=Oz (motive:=λ_=>zB)
 (λ_ _ _ _ _ _ _ _=> .no) (λ_ f=>aoO P d b f) a
def tO:Ft->G->Prop
 | .n,_=>False
 | .m rd _,id=>id∈rd
 | .c k _ _,id=>id<k
def oP:Ft->G->Prop
 | .n,_=>False
 | .m _ wr,id=>id∈wr
 | .c k a wl,id=>(id∈wl/\id<k)\/(k<=id/\id<a)
def Bs(b d:Ks)(f:Ft):Prop:=(∀a∈b.1,match a with| .s t=>Key.s t∈d.1| .m id=>tO f id)/\∀a∈b.2,match a with| .s t=>Key.s t∈d.2| .m id=>oP f id
def gh(d:Ms)(k:G):Prop:=∀a b,bO a d=ad b->a<k/\∀j∈b.ak,j<k
def eV(dep n:G)(t:Tr)(k:G):Prop:=∀j v,j<n->kI (dm dep j) t=ad v->∀a∈v.ak,a<k
def nC(d a:Ms):Prop:=∀i j b,1<=i->bO j (az i a)=ad b->∃f,bO j (az i d)=ad f
def nC.refl ms:nC ms ms:=λ_ _ b _ h=>⟨b,h⟩
def nC.trans{a b d}(k:nC a b)(g:nC b d):nC a d:=λi j x f l=>by let ⟨y,m⟩:=g i j x f l;exact k i j y f m
def U9 id b a:nC a (sF id b a):=by
 intro i j x _ hx;have d:∀(a:Ms)(i:G)(x:aA),bO j (az i<|sF id b a)=ad x->∃y,bO j (az i a)=ad y:=by
  intro a;induction a with
  |nil=>intro i x hx;exact⟨x,hx⟩
  |cons m r f=>
   intro i x hx
   have g:sF id b (m::r)=match oa id m with|some _=>J7 id b m::r|none=>m::sF id b r:=rfl
   cases i with
   |zero=>
    simp[sr]at hx⊢
    rw[GO]at hx
    split at hx
    .rename_i y k;split at hx
     next e=>subst e;exact⟨y,k⟩
     .exact⟨x,hx⟩
    .exact⟨x,hx⟩
   |succ i=>
    rw[g]at hx
    split at hx
    .exact⟨x,Gx⟩
    .exact f i x Gx
 exact d a i x hx
def aoP id a:nC a (wA id a):=by
 intro i j x _ b;have d:∀(a:Ms)(i:G),az i (wA id a)=wA id (az i a):=by
  intro a;induction a with
  |nil=>intro i;simp[wA]
  |cons m r f=>intro i;cases i with
   |zero=>rfl
   |succ i=>simpa[wA]using f i
 rw[d,Dz]at b;split at b
 .cases b
 .exact⟨x,b⟩
def aoQ k b ms:nC ms (Bo k b ms):=by
 intro i j x f a;obtain⟨i,rfl⟩:∃d,i=d+1:=⟨i-1,Y⟩;cases ms with
 |nil=>exact⟨x,by simpa[Bo]using a⟩
 |cons m r=>exact⟨x,by simpa[Bo]using a⟩
structure x8(P:bW)(i:ob):Prop where
 ok:∀{f vs ms k r d g wl},i f vs ms k= .ok r d g wl->gh ms k->(∀a∈cX vs,a<k)->
  CX P f vs ms.flatten k r d.flatten g/\(∀a∈r.ak,k<=a\/∃b,bO a ms=ad b)/\(∀a b,bO a d=ad b->bO a ms=ad b\/∀l∈b.ak,k<=l\/∃b,bO l ms=ad b)/\
   (∀a,a<k->a∉wl->bO a d=bO a ms)/\(∀a b,bO a d=ad b->k<=a\/∃m,bO a ms=ad m)/\gh d g/\(∀a∈r.ak,a<g)/\nC ms d
section
variable{P:bW}{tt:TT}{dep n:G}{t:Tr}{ms:Ms}{k:G}
def gh.le{a}(d:gh ms k)(f:k<=a):gh ms a:=λg b i=>⟨gK (d g b i).1 f,λj l=>gK ((d g b i).2 j l) f⟩
def eV.le{b}(d:eV dep n t k)(f:k<=b):eV dep n t b:=λj v g i l a=>gK (d j v g i l a) f
def eV.set(b:eV dep n t k)(m:n<=4^dep){d}(p:d<n){v}(f:∀g∈v.ak,g<k):eV dep n (kY (dm dep d) v t) k:=by
 intro j u i a;by_cases e:d=j
 .subst e;rw[J6]at a;cases a;exact f
 .rw[GH _ _ _ _ GK (λl=>e<|Dx dep Y Y l)]at a;exact b j u i a
def eV.del(b:eV dep n t k)(i:n<=4^dep){d}(l:d<n):eV dep n (GG (dm dep d) t) k:=by
 intro j u f a;by_cases e:d=j
 .subst e;rw[UL]at a;cases a
 .rw[UM _ _ _ GK (λg=>e<|Dx dep Y Y g)]at a;exact b j u f a
def Bt{a b}(d:dZ a b=ae):a<b:=by simpa[vd]using d
def mm{m:Mem}{x}{p:Pd}(a:jC dep n x=ad p){v}(b:lB t p=ad v):(bA dep n t m).ev x=ad v:=by
 cases x with
 |tmp j=>
  simp[jC]at a
  split at a
  next d=>cases a;simp[St.ev,bA,vb,q<|Bt d];exact b
  .cases a
 |const u=>simp[jC]at a;subst a;exact b
 |func f=>simp[jC]at a;subst a;exact b
 |global g=>simp[jC]at a
def OK{m:Mem}:∀{xs:E fE}{ps:E Pd},zv dep n xs=ad ps->∀{vs:E AV},zu t ps=ad vs->kF (bA dep n t m) xs=ad vs
 |[],ps,a,vs,he=>by simp[zv]at a;subst a;exact he
 |x::xs,ps,a,vs,he=>by
  simp[zv]at a;split at a
  .rename_i p d f g;cases a;have i:zu t (p::d)=match lB t p with
    |some v=>(match zu t d with|some vs=>ad (v::vs)|none=>none)
    |none=>none:=rfl
   rw[i]at he;split at he
   .rename_i v l;split at he
    next s b=>cases he;simp[kF,mm f l,OK g b]
    .cases he
   .cases he
  .cases a
def aoR{m:Mem}(l:eV dep n t k){x}{p:Pd}(a:jC dep n x=ad p){v}(d:lB t p=ad v):∀i∈v.ak,i<k:=by
 cases x with
 |tmp j=>
  simp[jC]at a
  split at a
  next s=>cases a;exact l j v (Bt s) d
  .cases a
 |const u=>
  simp[jC]at a;subst a
  have:FF u=v:=by simpa[lB]using d
  subst this
  intro i b
  cases u<;>simp[FF,AV.ak,C.ak]at b
 |func f=>
  simp[jC]at a;subst a
  have:AV.c (.V<|.func (.func f) #[] #[])=v:=by simpa[lB]using d
  subst this
  intro i b
  simp[AV.ak,C.ak]at b
 |global g=>simp[jC]at a
def OL(g:eV dep n t k):∀{xs:E fE}{ps:E Pd},zv dep n xs=ad ps->∀{vs:E AV},zu t ps=ad vs->∀d∈cX vs,d<k
 |[],ps,b,vs,he=>by
  simp[zv]at b;subst b;have:vs=[]:=by simpa[zu]using he.symm
  subst this;simp[cX]
 |x::xs,ps,b,vs,he=>by
  simp[zv]at b;split at b
  .rename_i p i l s;cases b;have e:zu t (p::i)=match lB t p with
    |some v=>(match zu t i with|some vs=>ad (v::vs)|none=>none)
    |none=>none:=rfl
   rw[e]at he;split at he
   .rename_i v u;split at he
    .rename_i z f;cases he;intro d a;simp[cX]at a;rcases a with a|a
     .exact aoR (m:=[]) g l u d a
     .exact OL g s f d a
    .cases he
   .cases he
  .cases b
def DI(f:cE P tt=ae){a:a8}(g:a.guard=none){d:G}(l:a.dst=ad d)(b:d<n)(u:n<=4^dep){m:Mem}{v}{p}(x:vT tt (bA dep n t m) a.op=ad (v,p))(z:p.h):
  iy P n #[a] 0 (bA dep n t m) (bA dep n (kY (dm dep d) v t) m) k (k+1) (bN a.op.operands.toList,[.s d]):=
 iy.n8 (Nm f (ops:= #[a]) (i:=0) J g l b x z k) (tF _ _) (GL dep n t m d v u b) Dw n9
def adi(f:cE P tt=ae){a:a8}(g:a.guard=none){d:G}(l:a.dst=ad d)(b:d<n)(u:n<=4^dep){m:Mem}{v}{p}(x:Gs tt (bA dep n t m) a.op=ad (v,p))(z:p.h):
  iy P n #[a] 0 (bA dep n t m) (bA dep n (kY (dm dep d) v t) m) k (k+1) (bN a.op.operands.toList,[.s d]):=
 iy.n8 (abE f (ops:= #[a]) (i:=0) J g l b x z k) (tF _ _) (GL dep n t m d v u b) Dw n9
def aoS(f:cE P tt=ae){a:a8}(g:a.guard=none){d:G}(l:a.dst=ad d)(b:d<n)(u:n<=4^dep){m:Mem}{v}{p}(x:xT tt (bA dep n t m) a.op=ad (v,p))(z:p.h):
  iy P n #[a] 0 (bA dep n t m) (bA dep n (kY (dm dep d) v t) m) k (k+1) (bN a.op.operands.toList,[.s d]):=
 iy.n8 (UJ f (ops:= #[a]) (i:=0) J g l b x z k) (tF _ _) (GL dep n t m d v u b) Dw n9
def aoT(z:cE P tt=ae){g:a8}(hg:g.guard=none){d:G}(hd:g.dst=ad d)(l:d<n)(hn:n<=4^dep){A}{x}(B:g.op= .load A x){v u}{f}(hx:(bA dep n t ms.flatten).ev x=ad v)(a:UW tt ms A v=ad (u,f)):
  iy P n #[g] 0 (bA dep n t ms.flatten) (bA dep n (kY (dm dep d) u t) ms.flatten) k (k+1) (bN [x]++da f,[.s d]):=by
 have c:Jg tt (bA dep n t ms.flatten) A v=ad (u,.t,f):=by
  unfold UW at a;unfold Jg;split at a
  .cases a
  .rename_i sz r C D;have b:sz≠0:=C;simp only[D];split at a
   .rename_i H K;have e:o H (bA dep n t ms.flatten).mem=bO H ms:=kJ H ms;simp only[e];split at a
    .rename_i E w q N;simp only[N];split at a
     next y m=>cases a;simp only[UU m (λe=>aF e b)]
     .cases a
    .rename_i E q N;simp only[N];split at a
     next y m=>cases a;simp only[UU m (λe=>aF e b)]
     .cases a
    .cases a
   .rename_i T e K;split at a
    next y m=>cases a;simp only[UU m (λe=>aF e b)]
    .cases a
   .cases a
  .cases a
 refine iy.n8 (aaZ z (ops:= #[g]) (i:=0) J hg hd l B hx c j k) ?_ (GL dep n t ms.flatten d u hn l) ?_ n9
 .intro W Q;rcases bl.1 Q with h|h
  .exact eQ _ _ W h
  .exact ly _ _ W h
 .intro p X;simp only[dL,gf,bl]at X⊢;rcases X with h|h
  .exact .inl<|ff (bA dep n t ms.flatten) [x] p Nx
  .exact .inr<|kE _ _ p h
def aoU(D:cE P tt=ae){u}(hg:u.guard=none)(hd:u.dst=none){H:TypeId}{x N}(Q:u.op= .store H x N){v T}{f}{b}{p}(W:(bA dep n t ms.flatten).ev x=ad v)(hy:(bA dep n t ms.flatten).ev N=ad T)(a:UX tt ms H v T=ad (f,b,p)):
  iy P n #[u] 0 (bA dep n t ms.flatten) (bA dep n t (sF f b ms).flatten) k (k+1) (bN [x,N]++da [f],[.m f])/\(∃s,bO f ms=ad s/\∀d∈b.ak,d∈s.ak\/d∈b6 p):=by
 have B:Jj tt (bA dep n t ms.flatten) H v T=ad (f,b)/\∃s,bO f ms=ad s/\∀d∈b.ak,d∈s.ak\/d∈b6 p:=by
  unfold UX at a;unfold Jj;split at a
  .rename_i sz M g z F C G;simp only[C,G];have e:o g (bA dep n t ms.flatten).mem=bO g ms:=kJ g ms;simp only[e];unfold acL at a;split at a
   .rename_i E O r I;split at a
    .rename_i l;simp only[cP]at l;split at a
     next x W=>cases a;obtain⟨R,rfl⟩:=acJ p z r x W;have A:Z p=sz:=mi l.1;simp only[I];rw[q ⟨A,Y,acK l.2⟩];exact⟨J,_,J,λd L=>FT r p z d L⟩
     .cases a
    .cases a
   .cases a
  .cases a
 refine⟨?_,B.2⟩
 let ⟨B,s,K,_⟩:=B
 refine iy.n8 (aa2 D (ops:= #[u]) (i:=0) J hg hd Q W hy B k) ?_ ?_ Dt n9
 .intro X c;rcases bl.1 c with h|h
  .rcases bl.1 h with h|h
   .exact eQ _ _ X h
   .exact eQ _ _ X h
  .exact ly _ _ X h
 .refine acw dep n t ms.flatten _ _ (λd=>?_)<|λd=>y7;rw[kJ,GO,K];simp only[bw,aD,Key.m.injEq];by_cases e:f=d
  .simp[e]
  .simp[e,bA,St.kn,kJ]
end
def Bu:∀{l:E fE}{a:Key},a∈bN l->∃f,a= .s f
 |[],a,b=>by simp[bN]at b
 | .tmp f::d,a,b=>by simp[bN]at b;exact b.elim (λg=>⟨f,g⟩) Bu
 | .const _::d,a,b=>Bu (l:=d) (by simpa[bN]using b)
 | .func _::d,a,b=>Bu (l:=d) (by simpa[bN]using b)
 | .global _::d,a,b=>Bu (l:=d) (by simpa[bN]using b)
def G7{b:G}:∀{l:E fE},b∈slotsOf l↔Key.s b∈bN l
 |[]=>by simp[slotsOf,bN]
 | .tmp i::a=>by simp[slotsOf,bN,G7 (l:=a)]
 | .const _::a=>by simp[slotsOf,bN,G7 (l:=a)]
 | .func _::a=>by simp[slotsOf,bN,G7 (l:=a)]
 | .global _::a=>by simp[slotsOf,bN,G7 (l:=a)]
section
variable{P:bW}{tt:TT}{dep n:G}{t:Tr}{ms:Ms}{k:G}
def adk:∀{l:E G}{b:E (G×E D4)},GS dep n l=ad b->∀x∈b,x.2=dm dep x.1/\x.1<n/\x.1∈l
 |[],b,a,x,hx=>by simp[GS]at a;subst a;cases hx
 |m::p,b,a,x,hx=>by
  simp[GS]at a;split at a
  .rename_i l d f;cases a;rcases b7.1 hx with rfl|hx
   .exact⟨J,Bt d,au⟩
   .let ⟨g,h2,i⟩:=adk f x hx;exact⟨g,h2,by simp[i]⟩
  .cases a
def adl:∀{sl:E (G×E D4)},(∀x∈sl,x.2=dm dep x.1/\x.1<n)->∀{j:G}{v:AV},o j (pE sl t)=ad v->j<n/\kI (dm dep j) t=ad v
 |[],_,j,v,a=>by simp[pE,o]at a
 |x::b,d,j,v,a=>by
  have g:pE (x::b) t=match kI x.2 t with|some v=>(x.1,v)::pE b t|none=>pE b t:=rfl
  rw[g]at a;let ⟨i,h2⟩:=d x au;have f:=adl (sl:=b) (λy hy=>d y wD) (j:=j) (v:=v);split at a
  .rename_i u l;simp[o]at a;split at a
   next m=>cases a;subst m;exact⟨h2,by rw[<-i];exact l⟩
   .exact f a
  .exact f a
def U':∀{f:E G}{d:G}{b:aA},o d (ve f ms)=ad b->bO d ms=ad b
 |[],d,b,a=>by simp[ve,o]at a
 |i::g,d,b,a=>by
  have l:ve (i::g) ms=match bO i ms with|some b=>(i,b)::ve g ms|none=>ve g ms:=rfl
  rw[l]at a;split at a
  .rename_i u m;simp[o]at a;split at a
   next p=>cases a;subst p;exact m
   .exact U' a
  .exact U' a
def DJ{b:G}:∀{l:E Key},b∈mK l↔Key.m b∈l
 |[]=>by simp[mK]
 | .m d::a=>by simp[mK,DJ (l:=a)]
 | .s d::a=>by simp[mK,DJ (l:=a)]
def Va:∀{l:E Key},wS none l=ae->∀a,Key.s a∉l
 |[],_,a=>by simp
 | .m i::d,b,a=>by simp[wS]at b;simpa using Va b a
 | .s i::d,b,a=>by simp[wS]at b
def ON{d:G}:∀{l:E Key},wS (ad d) l=ae->∀a,Key.s a∈l->a=d
 |[],_,a,hj=>by simp at hj
 | .m i::f,b,a,hj=>by simp[wS]at b;exact ON b a qh
 | .s i::f,b,a,hj=>by
  simp[wS]at b;split at b
  .rename_i g;rcases b7.1 hj with p|hj
   .cases p;exact(mi g).symm
   .exact ON b a hj
  .cases b
def OO{a:G}:∀{l:E G},DC a l=ae↔a∈l
 |[]=>by simp[DC]
 |x::f=>by
  simp[DC];cases d:jk x a with
  |true=>simp[(mi d).symm]
  |false=>
   have b:a≠x:=by intro e;subst e;simp[Dy]at d
   simp[OO (l:=f),b]
def OP{d:E G}:∀{l:E Key},rS d l=ae->∀a,Key.s a∈l->a∈d
 |[],_,a,hj=>by simp at hj
 | .m i::f,b,a,hj=>by simp[rS]at b;exact OP b a qh
 | .s i::f,b,a,hj=>by
  simp[rS]at b;split at b
  .rename_i g;rcases b7.1 hj with p|hj
   .cases p;exact OO.1 g
   .exact OP b a hj
  .cases b
def Vb{d f}{g}{b}(l:b<d)(a:b∉DB d f g):b∉g/\b≠f:=by
 unfold DB at a;split at a
 .simp[not_or]at a;exact⟨a.2,a.1⟩
 .rename_i i;refine⟨a,?_⟩;intro e;subst e;have:dZ b d=ae:=by simpa[vd]using l
  rw[this]at i;cases i
structure aoV(k l:G)(m f:Mem)(g:E G)(ms:Ms)(p:E G)(d:Ms)(i:E G):Prop where
 out:∀a,a∉g->bO a d=bO a ms
 OQ:∀a,a∈g->bO a d=o a f
 gone:∀a,a∈g->o a f=none->∃b,o a m=ad b
 log:∀a,a<l->a∉i->a∉p/\bO a d=bO a ms
 DK:∀a b,a<l->bO a d=ad b->∃s,bO a ms=ad s
 wf:gh ms (k+1)->gh d (k+1)
 tl:nC ms d
def OR{z:G}(H:z<=k){N g:Mem}:∀{Q:E G}{ms:Ms}{A:E G}{s:Ms}{u:E G},DD k z N g Q ms A=ad (s,u)->aoV k z N g Q ms A s u
 |[],ms,A,s,u,h=>by
  have:ms=s/\A=u:=by simpa[DD]using h
  obtain⟨rfl,rfl⟩:=this;exact⟨λ_ _=>rfl,λ_ h=>gL,λ_ h=>gL,λ_ _ h=>⟨h,J⟩,λ_ b _ h=>⟨b,h⟩,λh=>h,nC.refl _⟩
 |i::r,ms,A,s,u,h=>by
  have e:DD k z N g (i::r) ms A=match oa i g with
   |some b=>(match Ka (k+1) b with
    |true=>(match jk i k with
     |true=>DD k z N g r (Bo k b ms) A
     |false=>(match bO i ms with
      |some _=>DD k z N g r (sF i b ms)<|DB z i A
      |none=>none))
    |false=>none)
   |none=>(match oa i N with
    |some _=>DD k z N g r (wA i ms)<|DB z i A
    |none=>none):=rfl
  rw[e]at h;simp[zt]at h;split at h
  .rename_i b K;split at h
   .rename_i D;split at h
    .rename_i B;have B:i=k:=mi B;have f:=OR H h;refine⟨?_,?_,?_,?_,?_,?_,(aoQ k b ms).trans f.tl⟩
     .intro j a;simp[not_or]at a;rw[f.out j a.2,J9,y<|by rw[<-B];exact λe=>a.1 e.symm]
     .intro j a;by_cases hr:j∈r
      .exact f.OQ j hr
      .have:j=i:=by simpa[hr]using a
       subst this;rw[f.out j hr,J9,q B.symm,K]
     .intro j a C;rcases b7.1 a with rfl|a
      .rw[K]at C;cases C
      .exact f.gone j a C
     .intro j a p;let ⟨m,h2⟩:=f.log j a p;exact⟨m,by rw[h2,J9,y Y]⟩
     .intro j T a v;let ⟨W,L⟩:=f.DK j T a v;rw[J9,y Y]at L;exact⟨W,L⟩
     .intro p;refine f.wf ?_;intro X c d;rw[J9]at d;split at d
      next o=>cases d;exact⟨Y,acN D⟩
      .exact p X c d
    .split at h
     .rename_i W x;have f:=OR H h;have l:∀j,bO j (sF i b ms)=if i=j then ad b else bO j ms:=by intro j;rw[GO,x]
      refine⟨?_,?_,?_,?_,?_,?_,(U9 i b ms).trans f.tl⟩
      .intro j a;simp[not_or]at a;rw[f.out j a.2,l,y<|λe=>a.1 e.symm]
      .intro j a;by_cases hr:j∈r
       .exact f.OQ j hr
       .have:j=i:=by simpa[hr]using a
        subst this;rw[f.out j hr,l,q J,K]
      .intro j a C;rcases b7.1 a with rfl|a
       .rw[K]at C;cases C
       .exact f.gone j a C
      .intro j a p;let ⟨m,h2⟩:=f.log j a p;let ⟨w,F⟩:=Vb a m;exact⟨w,by rw[h2,l,y<|λe=>F e.symm]⟩
      .intro j T a v;let ⟨I,m⟩:=f.DK j T a v;rw[l]at m;split at m
       next o=>subst o;exact⟨W,x⟩
       .exact⟨I,m⟩
      .intro p;refine f.wf ?_;intro X c d;rw[l]at d;split at d
       next o=>cases d;subst o;exact⟨(p _ _ x).1,acN D⟩
       .exact p X c d
     .cases h
   .cases h
  .rename_i K;split at h
   .rename_i W x;have f:=OR H h;refine⟨?_,?_,?_,?_,?_,?_,(aoP i ms).trans f.tl⟩
    .intro j a;simp[not_or]at a;rw[f.out j a.2,Dz,y<|λe=>a.1 e.symm]
    .intro j a;by_cases hr:j∈r
     .exact f.OQ j hr
     .have:j=i:=by simpa[hr]using a
      subst this;rw[f.out j hr,Dz,q J,K]
    .intro j a C;rcases b7.1 a with rfl|a
     .exact⟨W,x⟩
     .exact f.gone j a C
    .intro j a p;let ⟨m,h2⟩:=f.log j a p;let ⟨w,F⟩:=Vb a m;exact⟨w,by rw[h2,Dz,y<|λe=>F e.symm]⟩
    .intro j T a v;let ⟨I,m⟩:=f.DK j T a v;rw[Dz]at m;split at m
     .cases m
     .exact⟨I,m⟩
    .intro p;refine f.wf ?_;intro X c d;rw[Dz]at d;split at d
     .cases d
     .exact p X c d
   .cases h
structure Left(i:G)(dep n:G)(t:Tr)(ms:Ms)(k:G)(l:E G)(m:Tr)(a:Ms)(f:G)(g:E G):Prop where
 le:k<=f
 eV:eV dep n m f
 gh:gh a f
 log:∀d,d<i->d∉g->d∉l/\bO d a=bO d ms
 DK:∀d b,d<i->bO d a=ad b->∃p,bO d ms=ad p
 tl:nC ms a
def wE{d}{v}{i}{l}{f:Ft}{m}{a}{p}{b}{s:Ft}(g:wB d v t ms i l f= .ok m a p b s):m=kY d v t/\a=ms/\p=i/\b=l/\s=f/\∀u∈v.ak,u<i:=by
 unfold wB at g;split at g
 next x=>simp[Rs.ok.injEq]at g;let ⟨z,h2,A,B,C⟩:=g;exact⟨z.symm,h2.symm,A.symm,B.symm,C.symm,aoA x⟩
 .cases g
def aoW(cK:cE P tt=ae){ke}(sB:ke<=k)(hn:n<=4^dep){T:a8}(hg:T.guard=none){d:aw (G×E D4)}(hd:T.dst=d.map (·.1))(Kk:∀x,d=ad x->x.2=dm dep x.1/\x.1<n){W}(sJ:GS dep n (slotsOf T.op.operands.toList)=ad W)
  (m6:eV dep n t k) (kZ:gh ms k) {wl}{t'}{x9}{k'}{mn}{f:Ft} (g:UY tt n ke d W T.op t ms k wl (pE W t) (ve (Bp<|pE W t) ms)= .ok t' x9 k' mn f):
  ∃ks,iy P n #[T] 0 (bA dep n t ms.flatten) (bA dep n t' x9.flatten) k k' ks/\(∀l,Key.s l∈ks.1->l∈slotsOf T.op.operands.toList)/\(∀l,Key.s l∈ks.2->T.dst=ad l)/\(∀a,Key.m a∈ks.1->tO f a)/\(∀a,Key.m a∈ks.2->oP f a)/\Left ke dep n t ms k wl t' x9 k' mn:=by
 have Q:=adk sJ
 have B:∀u x,St.kn ⟨pE W t,ve (Bp<|pE W t) ms,0,[]⟩ u=ad x->(bA dep n t ms.flatten).kn u=ad x:=by
  intro u x L;cases u with
  |s l=>
   simp only[St.kn,bY]at L
   obtain⟨v,hv,rfl⟩:=L
   let ⟨c,M⟩:=adl (dep:=dep) (n:=n) (λcc hy=>⟨(Q cc hy).1,(Q cc hy).2.1⟩) hv
   simp[bA,St.kn,vb,c,M]
  |m a=>
   simp only[St.kn,bY]at L
   obtain⟨v,hv,rfl⟩:=L
   simp[bA,St.kn,kJ,U' hv]
 unfold UY at g
 split at g
 .rename_i U k1 ks hs;split at g
  .rename_i O;simp only[cP]at O;let ⟨⟨V,H⟩,DL⟩:=O;have V:k1=k+1:=mi V;subst V;split at g
   .rename_i G8 wl2 ha;have Z:=OR sB ha;rw[<-hd]at hs H;let ⟨rd,wr,F,iB,uM,hle,tP,Ko⟩:=aoi cK (λ_ _ _ _ _ _ _ g=>by simp[acO]at g) (o:=T) hg hs;have K:∀u,u∉ks.2->aD wr u=none:=by
     intro u hk;cases X:aD wr u with
     |none=>rfl
     |some x=>exact aF (Ko u<|CU<|by simp[qM,X]) hk
    have R:∀a,(o a G8.flatten).map Info.b=bw (bA dep n t ms.flatten).kn wr (.m a):=by
     intro a;rw[kJ];by_cases I:a∈mK ks.2
     .rw[Z.OQ a I];have c:(o a U.mem).map Info.b=bw (St.kn ⟨pE W t,ve (Bp<|pE W t) ms,0,[]⟩) wr (.m a):=by rw[<-uM];rfl
      rw[c];simp only[bw];cases X:aD wr (.m a)with
      |some x=>rfl
      |none=>
       simp only
       have M:(o a U.mem).map Info.b=(o a<|ve (Bp<|pE W t) ms).map Info.b:=by rw[c];simp only[bw,X];rfl
       cases hm:o a U.mem with
       |none=>
        let ⟨b,hb⟩:=Z.gone a I hm
        rw[hm,hb]at M
        simp at M
       |some b=>
        rw[hm]at M
        simp only[xK]at M
        rw[show St.kn ⟨pE W t,ve (Bp<|pE W t) ms,0,[]⟩ (.m a)=ad (Info.b b)from M.symm]
        exact(B (.m a) (.b b) M.symm).symm
     .rw[Z.out a I];simp only[bw,K (.m a)<|λhc=>I<|DJ.2 hc];simp[bA,St.kn,kJ]
    have hL:∀{t'':Tr},eV dep n t'' (k+1)->Left ke dep n t ms k wl t'' G8 (k+1) wl2:=λhw=>⟨Y,hw,Z.wf<|kZ.le Y,Z.log,Z.DK,Z.tl⟩
    cases d with
    |none=>
     simp only[Rs.ok.injEq]at g
     obtain⟨rfl,rfl,rfl,rfl,rfl⟩:=g
     have N:T.dst=none:=hd
     rw[N]at H
     refine⟨ks,⟨rd,wr,F,λkx r=>B _ _<|iB kx r,acw dep n t ms.flatten _ wr R<|λl=>K _<|Va H l,hle,tP,Ko⟩,?_,?_,?_,?_,hL<|m6.le Y⟩
     .intro l A;let ⟨x,L,e⟩:=kd.1<|OP DL l A;rw[<-e];exact(Q x L).2.2
     .intro l A;exact aF A<|Va H l
     .intro a z;exact DJ.2 z
     .intro a z;exact DJ.2 z
    |some x=>
     let ⟨S,dp⟩:=x
     let ⟨C,D⟩:=Kk (S,dp) J
     simp only at C D
     have N:T.dst=ad S:=hd
     rw[N]at H
     simp only at g
     split at g
     .rename_i v hv;obtain⟨rfl,rfl,rfl,rfl,rfl,w⟩:=wE g;subst C;refine⟨ks,⟨rd,wr,F,λkx r=>B _ _<|iB kx r,?_,hle,tP,Ko⟩,?_,?_,?_,?_,hL<|(m6.le Y).set hn D w⟩
      .funext u;cases u with
       |m a=>exact R a
       |s l=>
        rw[GJ]
        simp only
        by_cases e:l=S
        .subst e;rw[q D,J6];have c:bw (St.kn ⟨pE W t,ve (Bp<|pE W t) ms,0,[]⟩) wr (.s l)=ad (.v v):=by rw[<-uM];simp[St.kn,hv]
         simp only[bw]at c⊢;cases X:aD wr (.s l)with
         |some cc=>rw[X]at c;simp only at c⊢;rw[c];rfl
         |none=>rw[X]at c;simp only at c⊢;rw[B _ _ c];rfl
        .have lz:aD wr (.s l)=none:=K _<|λhc=>e<|ON H l hc;simp only[bw,lz,bA,St.kn,vb];by_cases A:l<n
         .rw[q A,q A,GH _ _ _ _ GK<|λe'=>e (Dx dep Y Y e').symm]
         .rw[y A,y A]
      .intro l A;let ⟨x,L,e⟩:=kd.1<|OP DL l A;rw[<-e];exact(Q x L).2.2
      .intro l A;rw[N,ON H l A]
      .intro a z;exact DJ.2 z
      .intro a z;exact DJ.2 z
     .cases g
   .cases g
  .cases g
 .cases d with
  |none=>cases g
  |some x=>
   let ⟨S,dp⟩:=x
   let ⟨C,D⟩:=Kk (S,dp) J
   simp only at C D
   subst C
   have N:T.dst=ad S:=hd
   dsimp only at g
   unfold Ox at g
   split at g
   .rename_i v p he;split at g
    .rename_i Bv;obtain⟨rfl,rfl,rfl,rfl,rfl,w⟩:=wE g;refine⟨(bN T.op.operands.toList,[.s S]),iy.n8 (UJ (P:=P) cK (ops:= #[T]) (i:=0) J hg N D he (GM Bv) k) (λkx r=>B _ _<|tF _ _ kx r) (GL dep n t _ S v hn D) Dw n9,?_,?_,?_,?_,⟨Y,(m6.le Y).set hn D w,kZ.le Y,λ_ _ g=>⟨g,J⟩,λ_ b _ g=>⟨b,g⟩,nC.refl _⟩⟩
     .intro l A;exact G7.2 A
     .intro l A;simp only[iW,Key.s.injEq]at A;rw[N,A]
     .intro a z;let ⟨l,A⟩:=Bu z;cases A
     .intro a z;simp at z
    .cases g
   .cases g
end
end Go.El
end
