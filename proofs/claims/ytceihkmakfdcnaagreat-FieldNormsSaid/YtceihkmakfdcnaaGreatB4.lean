/- The engine, part 31: any operation in the interpreter. Own work; no condition. -/
import Derived.Test.YtceihkmakfdcnaaGreatB3
set_option linter.all false
set_option maxHeartbeats 16000000
set_option maxRecDepth 100000
open Array renaming replicate->qo
open Bool renaming true->ae,false->ah,rec->y7
open Go renaming Operand->eQ,FuncId->iK,Program->bI,Oper->aX,ResultVar->yO,Value->aR
open Go.El renaming ij->U
open Go.Instr renaming build->GZ,index->LN
open Go.Result renaming andThen->dx
open Go.Sem renaming run_bind->db
open Go.World renaming cell?->GO
open Int renaming toNat->af
open List renaming length->Z,rec->kM,drop->ay,take->M
open Nat renaming ble->dU,beq->il,blt->dt,rec->LX
open Option renaming some->ad
open _root_ renaming Nat->V,Option->au,List->E
namespace Go.El
open Go Go.RowKit
def YC(h:TT)(k d:V)(x f:eQ)(i l:V)(a:St):au (St×V×Ks):=match y5 h i l with
 |some (_,g)=>(match a.ev x,a.ev f with
  |some (.c<|.L id off len _),ad n=>(match ua a g.size n,U id a.mem with
   |some (m,cs,is),ad (.box o p b)=>if cs.all kd=ae/\m<=len/\off+m*g.size<=Z b then
     ad (⟨iA d (.c<|.I .i64 m) a.sl,iA id (.box o p<|cF b cs off) a.mem,a.nx,a.gd⟩,k+1,(bJ [x,f]++cY (id::is),[.s d,.m id]))else none
   |_,_=>none)
  |_,_=>none)
 |none=>none
def YD(h:TT)(k d:V)(t:V)(x i:eQ)(f:St):au (St×V×Ks):=match f.ev x,f.ev i,U t h with
 |some (.c<|.I _ a),ad (.c<|.I _ b),ad l=>(match l.kind with
  | .sl E=>(match U E h with
   |some g=>if a=b/\0<=a/\0<g.size/\dU (af a*g.bytes) 16777216=ae/\dU (af a) 16777216=ae then
     ad (⟨iA d (.c<|.L k 0 (af a)<|ad<|af a) f.sl,(k,.box E 0<|DU (g.zero.map ZV.pR)<|af a)::f.mem,f.nx,f.gd⟩,k+1,(bJ (Op.makeSlice t x i).operands.toList,[.s d,.m k]))else none
   |none=>none)
  |_=>none)
 |_,_,_=>none
def YE(h:TT)(k d:V)(t a:V)(b:Array (V×eQ))(f:St):au (St×V×Ks):=match vN h f t a b.toList with
 |some (E,g,cs)=>if 0<g.size/\dU (a*g.size) 16777216=ae then
   ad (⟨iA d (.c<|.L k 0 a<|ad a) f.sl,(k,.box E 0 cs)::f.mem,f.nx,f.gd⟩,k+1,(bJ (Op.buildSlice t a b).operands.toList,[.s d,.m k]))else none
 |none=>none
def YF(k d:V)(f:iK)(first a:Array eQ)(b:St):au (St×V×Ks):=match sL b first.toList,sL b a.toList with
 |some fs,ad cs=>ad (⟨iA d (.c<|.X k) b.sl,(k,.dI f fs cs)::b.mem,b.nx,b.gd⟩,k+1,(bJ<|first.toList++a.toList,[.s d,.m k]))
 |_,_=>none
def Hy(a:TT)(t:V):au (TI×TI):=match U t a with
 |some b=>(match b.kind with
  | .map kt d=>(match U kt a,U d a with
   |some f,ad g=>ad (f,g)
   |_,_=>none)
  |_=>none)
 |none=>none
def YG{a}{t}{g i}(h:Hy a t=ad (g,i)):∃b kt d,U t a=ad b/\b.kind= .map kt d/\U kt a=ad g/\U d a=ad i:=by
 unfold Hy at h;split at h
 .rename_i b f;split at h
  .rename_i kt d k;split at h
   .rename_i l m n o;cases h;exact⟨b,kt,d,f,k,n,o⟩
   .cases h
  .cases h
 .cases h
def YH(b:TT)(k d:V)(t:V)(a:St):au (St×V×Ks):=match Hy b t with
 |some (f,g)=>ad (⟨iA d (.c<|.X k) a.sl,(k,.mp f.agg g.agg [])::a.mem,a.nx,a.gd⟩,k+1,([],[.s d,.m k]))
 |none=>none
def LI(a:IntKind):TK->Bool
 | .int b=>decide<|a=b
 |_=>ah
def YI(g:TT)(k d:V)(t:V)(x f:eQ)(h:Bool)(a:St):au (St×V×Ks):=match Hy g t,a.ev x,a.ev f with
 |some (i,b),ad (.c<|.X id),ad (.c<|.I q m)=>(match LI q i.kind,U id a.mem with
  |true,ad (.mp ah l xs)=>(match l==b.agg,xr ah q [m] xs with
   |true,ad r=>(match Ee h b.agg (r.getD<|b.zero.map ZV.pR) r.isSome with
    |some v=>ad (⟨iA d v a.sl,a.mem,a.nx,a.gd⟩,k+1,(bJ [x,f]++cY [id],[.s d]))
    |none=>none)
   |_,_=>none)
  |_,_=>none)
 |_,_,_=>none
def YJ(i:TT)(k:V)(t:V)(x f g:eQ)(a:St):au (St×V×Ks):=match Hy i t,a.ev x,a.ev f,a.ev g with
 |some (l,_),ad (.c<|.X id),ad (.c<|.I q m),ad u=>(match LI q l.kind,U id a.mem,rq u with
  |true,ad (.mp ah h xs),ad (b,vc)=>(match h==b,xt ah q [m] [.I q m] vc xs with
   |true,ad d=>ad (⟨a.sl,iA id (.mp ah h d) a.mem,a.nx,a.gd⟩,k+1,(bJ [x,f,g]++cY [id],[.m id]))
   |_,_=>none)
  |_,_,_=>none)
 |_,_,_,_=>none
def RB(i:Hu)(g:TT)(n k:V)(l:au V)(op:Op)(a:St):au (St×V×Ks):=match l with
 |none=>(match op with
  | .mapUpdate t x y z=>YJ g k t x y z a
  |op=>(match DF g n k none op a with
   |some (h,p,m)=>if p.b=ae then ad (nO ah ae h,k+1,m)else none
   |none=>none))
 |some d=>if d<n then(match op with
  | .call ⟨.value o,args,_⟩=>Ru i k d o args.toList a
  | .call ⟨.builtin .append,⟨[x,y]⟩,⟨[t1,t2]⟩⟩=>Rq g n k d x y t1 t2 a
  | .call ⟨.builtin .copy,⟨[x,y]⟩,⟨[t1,t2]⟩⟩=>YC g k d x y t1 t2 a
  | .makeSlice t x y=>YD g k d t x y a
  | .buildSlice t len parts=>YE g k d t len parts a
  | .makeFunc (.func f) first caps=>YF k d f first caps a
  | .makeMap t none=>YH g k d t a
  | .lookup t x y ok=>YI g k d t x y ok a
  |op=>(match D1 g a op with
   |some (v,p)=>if p.b=ae then ad (⟨iA d v a.sl,a.mem,a.nx,a.gd⟩,k+1,(bJ op.operands.toList,[.s d]))else none
   |none=>(match DF g n k (ad d) op a with
    |some (h,p,m)=>if p.b=ae then ad (nO ae ah h,k+1,m)else none
    |none=>none)))else none
def YK{a}{k:TK}(h:LI a k=ae):k= .int a:=by cases k<;>simp[LI]at h;subst h;rfl
def aj0(a:St) id b:St.kn ⟨a.sl,iA id b a.mem,a.nx,a.gd⟩=bs a.kn [(.m id,ad<|.b b)]:=by
 funext k;cases k with
 |s t=>simp[St.kn,bs,aC]
 |m j=>
  simp only[St.kn,bs,aC,ox,Key.m.injEq]
  by_cases e:id=j<;>simp[e]
def YL{a}{xs:E eQ}{b}:∀d∈xs.flatMap (cH a)++fM a b,a.kn d.1=ad d.2:=by
 intro d f;rcases be.1 f with h|h
 .obtain⟨x,_,h⟩:=iV.1 h;exact dX a x d h
 .exact lp a b d h
def YM{d}{xs}{b}:∀a∈dw (xs.flatMap (cH d)++fM d b),a∈bJ xs++cY b:=by intro a f;simp only[dw,fF,be]at f⊢;exact f.elim (λh=> .inl<|eI d _ a h)<|λh=> .inr<|kf d b a h
section
variable{P:bI}{tt:TT}
def Bq{b}{op:Op}:∀a∈dw (ot b op),a∈bJ op.operands.toList:=λa d=>eI b _ a d
def aj1(i:cq P tt=ae){qn:Hu}(oS:∀f vs fm k a7 Br k',qn f vs fm k=ad (a7,Br,k')->CX P f vs fm k a7 Br k'){n k}{o}(H:o.guard=none){s st'}{k'}{ks}
  (h:RB qn tt n k o.dst o.op s=ad (st',k',ks)):gD P n #[o] 0 s st' k k' ks:=by
 have C:(#[o]:Array aX)[0]? =ad o:=rfl
 unfold RB at h
 split at h
 .rename_i B;split at h
  .rename_i t x y z g;unfold YJ at h;split at h
   .rename_i I J G q m u X L Q hz;split at h
    .rename_i M xs N vc O c hu;split at h
     .rename_i xu w T;simp only[aq,bK]at h;obtain⟨rfl,rfl,rfl⟩:=h;obtain⟨ti,kt,vt,R,S,U,_⟩:=YG X;have w:M=N:=by simpa using w
      subst w;have Y:I.kind= .int q:=YK O;exact .mu (ajW i C H B g L Q hz hu R S U Y c T k) (YL (xs:=[x,y,z])) (aj0 s G _) (YM (xs:=[x,y,z])) mz
     .simp at h
    .simp at h
   .simp at h
  .split at h
   .rename_i Z p LJ e;split at h
    .rename_i T;simp only[aq,bK]at h;obtain⟨rfl,rfl,rfl⟩:=h;exact .Ro (KV i C H (by rw[B];exact e)<|Pr.Gy T)<|Ys _ _ _
    .simp at h
   .simp at h
 .rename_i d B;split at h
  .rename_i l;split at h
   .rename_i cf args iz g;exact ajQ oS l H B g h
   .rename_i x y t1 t2 g;exact ajN i l H B g h
   .rename_i x y t1 t2 g;unfold YC at h;split at h
    .rename_i E ei hI;have X:=Lz i hI;split at h
     .rename_i G off len cap vy L Q;split at h
      .rename_i m cs is Eb bz oQ e c;split at h
       .rename_i K;simp only[aq,bK]at h;obtain⟨rfl,rfl,rfl⟩:=h;exact .mu (ajE C H B l g X L Q c e K.1 K.2.1 K.2.2 k) Ed (Yq s d G _ _) Bo mz
       .simp at h
      .simp at h
     .simp at h
    .simp at h
   .rename_i t x y g;unfold YD at h;split at h
    .rename_i k1 a k2 b ti L Q nF;split at h
     .rename_i E j;split at h
      .rename_i ei m0;split at h
       .rename_i K;obtain⟨rfl,h0,A,Hz,mr⟩:=K;simp only[aq,bK]at h;obtain⟨rfl,rfl,rfl⟩:=h;have ea:((af a:V):Int)=a:=vP h0;have:=aje (P:=P) i C H B l g (st:=s) (m:=af a) (by rw[ea];exact L) (by rw[ea];exact Q) nF j m0 A (cP Hz) (cP mr) k;rw[g]at this;exact .mu this (ri s _) (Ea s d k _ _) Bq mz
       .simp at h
      .simp at h
     .simp at h
    .simp at h
   .rename_i t len parts g;unfold YE at h;split at h
    .rename_i E ei cs D;split at h
     .rename_i K;simp only[aq,bK]at h;obtain⟨rfl,rfl,rfl⟩:=h;have:=ajg (P:=P) i C H B l g K.1 (cP K.2) D k;rw[g]at this;exact .mu this (ri s _) (Ea s d k _ _) Bq mz
     .simp at h
    .simp at h
   .rename_i f first caps g
    unfold YF at h;split at h
    .rename_i fs cs hf K;simp only[aq,bK]at h;obtain⟨rfl,rfl,rfl⟩:=h;refine .mu (Yh C H B l g hf K k) ?_ (Ea s d k _ _) (λF j=>eI s _ F j) mz;intro kx W;let ⟨x,_,h⟩:=iV.1 W;exact dX s x kx h
    .simp at h
   .rename_i t g;unfold YH at h;split at h
    .rename_i I J X;simp only[aq,bK]at h;obtain⟨rfl,rfl,rfl⟩:=h;exact .mu (ajT C H B l g _ _ k) (λkx W=>by cases W) (Ea s d k _ _) (λF j=>by cases j) mz
    .simp at h
   .rename_i t x y ok g;unfold YI at h;split at h
    .rename_i I J G q m X L Q;split at h
     .rename_i M xs O c;split at h
      .rename_i a7 w hr;split at h
       .rename_i v D;simp only[aq,bK]at h;obtain⟨rfl,rfl,rfl⟩:=h;obtain⟨ti,kt,vt,R,S,U,e4⟩:=YG X;have w:M=J.agg:=by simpa using w
        subst w;exact .mu (ajU i C H B l g L Q R S U (YK O) e4 c hr D k) (YL (xs:=[x,y])) (Rp s d _) (YM (xs:=[x,y])) mz
       .simp at h
      .simp at h
     .simp at h
    .simp at h
   .split at h
    .rename_i v p D;split at h
     .rename_i T;simp only[aq,bK]at h;obtain⟨rfl,rfl,rfl⟩:=h;exact .mu (X9 i C H B l D (Pr.Gy T) k) (ri s _) (Rp s d _) Bq mz
     .simp at h
    .split at h
     .rename_i Z p LJ e;split at h
      .rename_i T;simp only[aq,bK]at h;obtain⟨rfl,rfl,rfl⟩:=h;exact .Ro (KV i C H (by rw[B];exact e)<|Pr.Gy T)<|Ys _ _ _
      .simp at h
     .simp at h
  .simp at h
end
section
variable{P:bI}{tt:TT}
structure Steps(P:bI)(n:V)(g:Array aX)(i:V)(os:E aX)(st l:St)(k p:V)(ds:E (E (Key×Info)×E (Key×au Info)))(f:E V):Prop where
 len:ds.length=os.length
 YN:f.length=os.length+1
 first:f[0]? =ad k
 last:f[os.length]? =ad p
 mono:∀d a b,f[d]? =ad a->f[d+1]? =ad b->a<=b
 step:∀d(h:d<ds.length) a b,f[d]? =ad a->f[d+1]? =ad b->sx P n g (i+d) ds[d].1 ds[d].2 (λm=>a<=m/\m<b)
 reads:∀d(h:d<ds.length),∀o∈ds[d].1,oN st.kn (ds.take d) o.1=ad o.2
 fin:l.kn=oN st.kn ds
end
inductive Ex where
 |dk
 |gN (a:V)
 |ret
def Ex.HA:Ex->Exit
 | .dk=> .normal
 | .gN id=> .exit id
 | .ret=> .ret
def YO(o:aX):Bool:=match o.op with
 | .defer _=>ah
 |_=>ae
def lR:Code->Bool
 | .region _ ops _=>ops.toList.all YO
 | .seq x a=>lR x&&lR a
 | .cond _ x a=>lR x&&lR a
 | .block _ x=>lR x
 | .loop x=>lR x
 | .skip=>ae
 | .exit _=>ae
 | .ret=>ae
 |_=>ah
def lS(a:au V)(b:Code):Prop:=a=none\/lR b=ae
def lS.seq{a}{x b}(h:lS a (.seq x b)):lS a x/\lS a b:=by
 rcases h with h|h
 .exact⟨.inl h,.inl h⟩
 .simp only[lR,cD]at h;exact⟨.inr h.1,.inr h.2⟩
def lS.cond{a}{d}{x b}(h:lS a (.cond d x b)):lS a x/\lS a b:=by
 rcases h with h|h
 .exact⟨.inl h,.inl h⟩
 .simp only[lR,cD]at h;exact⟨.inr h.1,.inr h.2⟩
def lS.block{a}{b}{x}(h:lS a (.block b x)):lS a x:=h
def lS.loop{a}{x}(h:lS a (.loop x)):lS a x:=h
def lS.region{b}{g}{a}{d}(h:lS b (.region g a d)):vp b a:=by
 intro i o f;rcases h with h|h
 .exact .inl h
 .refine .inr<|λc k=>?_;simp only[lR,mn]at h;have:=h o (by rw[<-DH]at f;exact LK f);simp[YO,k]at this
def HB(P:bI)(n:V)(d:Code)(h:St)(k:V)(i:Ex)(b:St)(f:V):Prop:=
 k<=f/\∀F:dm,F.n=n->lS F.rd d->∀g W a,aJ F (·<k) h.kn g W a->d.wpIn (di F.rd) 0 P (λl m o=>l=i.HA/\∃p,aJ F (·<f) b.kn p o m) a W
section
variable{P:bI}{tt:TT}
def YP{l}{d:V->Prop}{k}{g}{W}{a}(h:aJ l d k.kn g W a){x}{v}(hv:oO tt k x=ad v):∀f∈v.ak,d f:=by
 cases x with
 |tmp t=>
  simp only[oO]at hv
  exact λf i=>h.ak (.s t) (.v v) p7 f i
 |cell b t=>
  simp only[oO]at hv
  split at hv
  .rename_i f n C;split at hv
   .rename_i E o p sz H u w;intro j B;exact h.ak (.m f) (.b<|.box E o p) (by simp[St.kn,u]) j<|yC hv j B
   .simp at hv
  .simp at hv
def YQ{m:dm}{d:V->Prop}{l:St}{g:Gh}{W:World}{a:Act}(h:aJ m d l.kn g W a):∀(n:E yO)(k:E (Bool×E C)),oP tt l n=ad k->∀i∈eG k,d i
 |[],k,f,i,b=>by simp only[oP,aq]at f;subst f;cases b
 |x::xs,k,f,i,b=>by
  simp only[oP]at f;split at f
  .rename_i v o;split at f
   .rename_i s p t u;simp only[aq]at f;subst f;simp only[eG,be]at b;rcases b with b|b
    .rw[Ls t]at b;exact YP (tt:=tt) h o i b
    .exact YQ h xs p u i b
   .simp at f
  .simp at f
def YR{n}{b:V->Prop}{k}{g}{W}{a}(h:aJ n b k.kn g W a){l}{v}(d:lu tt k l=ad v):∀m∈v.ak,b m:=by
 match l,d with
 |[],d=>
  simp only[lu,oP,vH,aq]at d
  subst d
  intro m f;cases f
 |[x],d=>exact YP (tt:=tt) h d
 |x::y::r,d=>
  simp only[lu,bS]at d
  obtain⟨o,i,rfl⟩:=d
  exact YQ (tt:=tt) h _ o i
def aj2(b7:cq P tt=ae){f}{d}{ew}(hf:P.funcs[f]? =ad d)(hb:d.body=ad ew)(p8:(d.name != "runtime.NumGoroutine")=ae){vs}(hle:Z vs<=d.ntmps){fm}{k}{cz:Ex}{L}{k'}(o:cz= .dk\/cz= .ret)
  (h:HB P d.ntmps ew ⟨dy 0 vs,fm,0,[]⟩ k cz L k') {a7}(hr:lu tt L d.results.toList=ad a7) {T}(H:∀p b,U p T=ad b->U p L.mem=ad b):CX P f vs fm k a7 T k':=by
 refine⟨yQ,h.1,?_⟩
 intro F g W K hn m6 w
 refine calls_of_wp hf hb ?_
 have I:(K.toArray++qo (d.ntmps-K.toArray.size) undef).size=d.ntmps:=bX
 have h0:aJ {F with n:=d.ntmps,rd:=none} (·<k) (St.kn ⟨dy 0 vs,fm,0,[]⟩) g W {tmps:=K.toArray++qo (d.ntmps-K.toArray.size) undef,defers:=[]}:=by
  refine⟨I,w.defers,?_,w.cA,w.inj,w.ak,w.dn,w.sub,w.below,w.le,w.fresh,w.fv⟩;intro t v M;have N:=w.dv t v M;have jh:t<Z K:=by
   have X:U t (dy 0 vs)=ad v:=by simp only[St.kn,bS]at M;let ⟨x,a,o⟩:=M;cases o;exact a
   have q:∀(l:E AV)(i:V)(v:AV),U t (dy i l)=ad v->t<i+Z l:=by
    intro l;induction l with
    |nil=>intro i v h;simp[dy,U]at h
    |cons x l ih=>
     intro i v h
     simp only[dy,U]at h
     split at h
     .simp;omega
     .have:=ih (i+1) v h;simp;omega
   have:=q vs 0 v X;omega
  have:(K.toArray++qo (d.ntmps-K.toArray.size) undef).getD t undef=K.toArray.getD t undef:=by rw[ls,ls,tO yR]
  show a8 g v ((K.toArray++qo (d.ntmps-K.toArray.size) undef).getD t undef);rw[this];exact N
 refine(Xc (r:=none) J).1<|wpIn_mono (h.2 {F with n:=d.ntmps,rd:=none} rfl (.inl J) g W _ h0) ?_
 rintro e' a' W' ⟨rfl,g',B⟩
 let ⟨u,hu,z⟩:=yP (P:=P) (tt:=tt) (st:=L) b7 B (fn:=d) (rs:=d.results.toList) ax hr
 have Q:∃v O,Ending.returned u= .returned v/\aJ {F with n:=1} (·<k') (St.kn ⟨[(0,a7)],T,0,[]⟩) O W' (m7 [v]):=by
  have R:=YR (tt:=tt) B hr;refine⟨u,g',J,⟨J,w.defers,?_,?_,?_,?_,?_,B.sub,B.below,B.le,B.fresh,B.fv⟩⟩
  .intro t x a;simp only[St.kn,U,bS]at a;let ⟨y,C,o⟩:=a;cases o;split at C
   .rename_i cz;subst cz;cases C;simpa[m7]using z
   .cases C
  .intro p b hb;simp only[St.kn,bS]at hb;let ⟨x,a,o⟩:=hb;cases o;exact B.cA p b (by simp[St.kn,H p b a])
  .intro p A b b' kk hb D N h2;simp only[St.kn,bS]at hb D;let ⟨x,a,o⟩:=hb;let ⟨x',S,Y⟩:=D;cases o;cases Y;exact B.inj p A b b' kk (by simp[St.kn,H p b a]) (by simp[St.kn,H A b' S]) N h2
  .intro q x a p G;cases q with
   |s t=>
    simp only[St.kn,U,bS]at a
    let ⟨y,C,o⟩:=a
    subst o
    split at C
    .cases C;exact R p G
    .cases C
   |m j=>
    simp only[St.kn,bS]at a
    let ⟨y,C,o⟩:=a
    subst o
    exact B.ak (.m j) (.b y) (by simp[St.kn,H j y C]) p G
  .intro p x a;simp only[St.kn,bS]at a;let ⟨y,C,o⟩:=a;exact B.dn p (.b y) (by simp[St.kn,H p y C])
 rcases o with rfl|rfl
 .exact⟨B.defers.trans w.defers.symm,u,hu,Q⟩
 .exact⟨B.defers.trans w.defers.symm,u,hu,Q⟩
end
def LL:AV->au Bool
 | .c (.V<|.slice none 0 0)=>ad ae
 | .c (.L _ _ _ _)=>ad ah
 | .c (.S _<|_::_)=>ad ah
 |_=>none
def RC(a:TT)(t:V):Bool:=match U t a with
 |some b=>(match b.kind with| .sl _=>ae|_=>ah)
 |none=>ah
def HC(s:ByteArray)(i:Int):au Int:=match s[i.toNat]? with
 |some b=>ad b.toNat
 |none=>none
def RD(a:TT)(op:BinOp)(t:V)(v w:AV):au AV:=match w with
 | .c (.V<|.slice none 0 0)=>(match RC a t,LL v with
  |true,ad b=>(match op with
   | .eql=>ad<|.c<|.B b
   | .neq=>ad<|.c<|.B<|!b
   |_=>none)
  |_,_=>none)
 |_=>none
def vQ(d:TT)(h:St):Op->au (AV×Pr)
 | .build t parts=>(match U t d with
  |some f=>(match f.kind with
   | .arr len k=>(match U k d with
    |some l=>(match A1 (vM l.size 0 len) h (f.zero.map ZV.pR) parts.toList with
     |some cs=>ad (.a cs,.t)
     |none=>none)
    |none=>none)
   |_=>none)
  |none=>none)
 | .index t x i=>(match h.ev x,h.ev i with
  |some (.a cs),ad (.c<|.I _ g)=>(match U t d with
   |some f=>(match f.kind with
    | .arr len k=>(match ou d k with
     |some (sz,m)=>(match nD cs (af g*sz) sz m with
      |some u=>ad (u,.and (.le 0 g)<|.lt g len)
      |none=>none)
     |none=>none)
    |_=>none)
   |none=>none)
  |some (.c<|.V<|.string s),ad (.c<|.I _ g)=>(match U t d with
   |some f=>(match f.kind,HC s g with
    | .str,ad b=>ad (.c<|.I .u8 b,.le 0 g)
    |_,_=>none)
   |none=>none)
  |_,_=>none)
 | .binOp op t x n _=>(match h.ev x,h.ev n with
  |some v,ad w=>(match RD d op t v w with
   |some u=>ad (u,.t)
   |none=>none)
  |_,_=>none)
 |_=>none
section
variable{P:bI}{tt:TT}{g:Gh}{W:World}
def aj3{v}{b}(h:LL v=ad b){u}(f:a8 g v u):∃a l i,u= .slice a l i/\a.isNone=b:=by
 unfold LL at h;split at h
 .cases h;have k:u= .slice none 0 0:=f;exact⟨none,0,0,k,J⟩
 .rename_i p m o d;cases h;cases d with
  |some i=>obtain⟨b,_,rfl⟩:=f;exact⟨_,_,_,J,J⟩
  |none=>obtain⟨_,b,i,_,rfl,_⟩:=f;exact⟨_,_,_,J,J⟩
 .rename_i T x xs;cases h;obtain⟨a,d,rfl,_,_,n⟩:=f;rcases n with n|⟨b,m,rfl,_⟩
  .cases n
  .exact⟨_,_,_,J,J⟩
 .cases h
def aj4{t b}(d:P.underlying t=ad (.slice b)) a l f:(Op.equal t (.slice a l f)<|.slice none 0 0).run P W= .ok a.isNone W:=by rw[Op.equal,show Op.maxDepth=9999+1 from J,Op.equalIn];cases a<;>simp[run_underlying d]
def aj5(H:cq P tt=ae){fW}{d:V->Prop}{σ}{g}{W}{a}(L:aJ fW d σ g W a){o}{m:BinOp}{t:TypeId}{n p}{ty}(bO:o.op= .binOp m t n p ty){v:AV}{b:Bool}(f:RC tt t=ae)(hn:LL v=ad b){x:AV}
  (he:(m= .eql/\x=AV.c (.B b))\/(m= .neq/\x=AV.c (.B<|!b))) (h1:a8 g v (a.eval n)/\∀s∈v.ak,d s) (u:a.eval p= .slice none 0 0):
  (∀s∈x.ak,d s)/\∃v,(execOp a.eval o).run P W= .ok (.value v) W/\a8 g x v:=by
 let ⟨X,l,c,w,Q⟩:=aj3 hn h1.1
 have h:∃e,P.underlying t=ad (.slice e):=by
  unfold RC at f;split at f
  .rename_i q K;split at f
   .rename_i e j;have T:=(eK H K).kind;rw[j]at T;exact⟨e,T⟩
   .cases f
  .cases f
 let ⟨e,h⟩:=h
 have i:execOp a.eval o=(do pure (.value<|<-(do eqGuard m t n p (a.eval n) (a.eval p);binOp m t (a.eval n) (a.eval p):Go.Sem aR))):=vC
 have heq:=aj4 (P:=P) (W:=W) h X l c
 rcases he with⟨rfl,rfl⟩|⟨rfl,rfl⟩
 .refine⟨λs k=>by simp[AV.ak,C.ak]at k,.bool b,?_,J⟩;rw[i,w,u];simp[eqGuard,binOp,heq,dx,Q]
 .refine⟨λs k=>by simp[AV.ak,C.ak]at k,.bool (!b),?_,J⟩;rw[i,w,u];simp[eqGuard,binOp,heq,dx,Q]
def RE(L:cq P tt=ae){ops}{i}{o:aX}{d:V}(ho:ops[i]? =ad o)(hg:o.guard=none)(hd:o.dst=ad d){n}(df:d<n)
 {st}{x}{p}(f:vQ tt st o.op=ad (x,p)) (hp:p) new:ig P n ops i (ot st o.op) [(.s d,ad<|.v x)] new:=by
 refine sB ho hg hd df _ x new ?_
 intro F M σ g W a Q N
 have O:∀y∈o.op.operands,∀kx∈cH st y,σ kx.1=ad kx.2:=by intro y X kx R;exact N kx<|iV.2 ⟨y,by simpa using X,R⟩
 have K:∀y∈o.op.operands,∀u,st.ev y=ad u->a8 g u (a.eval y)/\∀id∈u.ak,M id:=by intro y X u S;exact⟨dq Q st y u S<|O y X,q8 Q st y u S<|O y X⟩
 generalize bO:o.op=op at f K O N
 unfold vQ at f
 split at f
 .rename_i t l;split at f
  .rename_i ti e;split at f
   .rename_i r E hk;split at f
    .rename_i ei m0;split at f
     .rename_i cs QL;cases f;have I:=(eK L e).kind;rw[hk]at I;have S:P.underlying t=ad (.array r E):=I;let ⟨inf,T,gw,_,z,hz,xc⟩:=(eK L e).info;let ⟨ie,hie,RF,_⟩:=(eK L m0).info;have hzr:aY g (ti.zero.map ZV.pR) (ti.zero.map ZV.eY):=yK g ti.zero;let ⟨us,U,A,hlen,aj8⟩:=GX Q st (vM ei.size 0 r) (λi=>ad (i*ei.size,ei.size)) (λi y X=>by have:=Ld ei.size r 0 i y X;rw[this,eP]) l.toList _ cs _ QL hzr (λq hq kx R=>N kx<|iV.2 ⟨q.2,by simp only[Op.operands];simp only[kF];exact⟨q,hq,J⟩,R⟩) (by rw[KT];intro _ h;cases h);refine⟨aj8,.agg us.toArray,?_,us,J,A⟩;have Ef:(zeroValue t).run P W= .ok z W:=by simp[zeroValue,typeInfo,T,hz]
      have aj9:z.cells=(ti.zero.map ZV.eY).toArray:=DD;have m:execOp a.eval o=(do pure (.value<|<-GZ t (l.map λ(i,x)=>(i,a.eval x)))):=vC;have LM:(l.map λ(i,x)=>(i,a.eval x)).toList=l.toList.map λp=>(p.1,a.eval p.2):=ax
      have hb:(GZ t<|l.map λ(i,x)=>(i,a.eval x)).run P W= .ok (.agg us.toArray) W:=by unfold GZ;rw[db,Ef];simp only[dx];rw[db,run_underlying S];simp only[dx];rw[db,run_sizeOf hie];simp only[dx,LM,aj9,RF,U];rfl
      rw[m,db,hb];rfl
     .cases f
    .cases f
   .cases f
  .cases f
 .rename_i t y j;have m:execOp a.eval o=(do pure (.value<|<-LN t (a.eval y) (a.eval j))):=vC;split at f
  .rename_i cs k jj X hj;split at f
   .rename_i ti e;split at f
    .rename_i r E hk;split at f
     .rename_i sz ag DC;split at f
      .rename_i u S;cases f;obtain⟨Y,mr⟩:0<=jj/\jj<(r:Int):=hp;have I:=(eK L e).kind;rw[hk]at I;have D:P.underlying t=ad (.array r E):=I;let ⟨vs,vR,A⟩:=(K y gU _ X).1;have Z:a.eval j= .int k jj:=(K j gU _ hj).1;let ⟨hag,⟨inf,T,gw⟩,_⟩:=GL L DC;let ⟨v,hv,LF⟩:=Xk (P:=P) A S hag T gw W;refine⟨λid a6=>(K y gU _ X).2 id<|yC S id a6,v,?_,LF⟩;have G:(LN t (a.eval y)<|a.eval j).run P W= .ok v W:=by rw[vR,Z];unfold LN;simp only[asIntOf,db,Sem.run_pure,dx,run_underlying D,Y,mr,and_self,cd,run_sizeOf T,gw];exact hv
       rw[m,db,G];rfl
      .cases f
     .cases f
    .cases f
   .cases f
  .rename_i s k jj X hj;split at f
   .rename_i ti e;split at f
    .rename_i b hk hb;cases f;have Y:0<=jj:=hp;have I:=(eK L e).kind;rw[hk]at I;have D:P.underlying t=ad .string:=I;have hyv:a.eval y= .string s:=(K y gU _ X).1;have Z:a.eval j= .int k jj:=(K j gU _ hj).1;refine⟨λid a6=>by simp[AV.ak,C.ak]at a6,.int .u8 b,?_,J⟩;have G:(LN t (a.eval y)<|a.eval j).run P W= .ok (.int .u8 b) W:=by
      rw[hyv,Z];unfold HC at hb;unfold LN;simp only[asIntOf,db,Sem.run_pure,dx,run_underlying D,Y,cd];split at hb
      .rename_i bb HD;cases hb;rw[HD];rfl
      .cases hb
     rw[m,db,G];rfl
    .cases f
   .cases f
  .cases f
 .rename_i bo t y z ty;split at f
  .rename_i v w X hz;split at f
   .rename_i u0 H;cases f;unfold RD at H;split at H
    .split at H
     .rename_i b hsk hn;have akc:(bo= .eql/\x=AV.c (.B b))\/(bo= .neq/\x=AV.c (.B<|!b)):=by
       split at H
       .cases H;exact .inl ⟨J,J⟩
       .cases H;exact .inr ⟨J,J⟩
       .cases H
      exact aj5 L Q bO hsk hn akc (K y gU _ X) (K z gU _ hz).1
     .cases H
    .cases H
   .cases f
  .cases f
 .cases f
end
inductive D4 where
 |a|b|c|d
inductive T4(f:Type) where
 |e
 |lf (v:f)
 |nd (a b c d:T4 f)
section
variable{α:Type}
noncomputable def jx(p:E D4):T4 α->au α:=kM (motive:=λ_=>T4 α->au α)
 (λt=>T4.rec (motive:=λ_=>au α) none (λv=>ad v) (λ_ _ _ _ _ _ _ _=>none) t)
 (λx _ f t=>T4.rec (motive:=λ_=>au α) none (λ_=>none) (λa b c d _ _ _ _=>D4.rec (motive:=λ_=>au α) (f a) (f b) (f c) (f d) x) t) p
noncomputable def jH(p:E D4)(v:α):T4 α->T4 α:=kM (motive:=λ_=>T4 α->T4 α)
 (λ_=> .lf v)
 (λx _ f t=>T4.rec (motive:=λ_=>T4 α)
  (D4.rec (motive:=λ_=>T4 α) (.nd (f .e) .e .e .e) (.nd .e (f .e) .e .e) (.nd .e .e (f .e) .e) (.nd .e .e .e<|f .e) x)
  (λ_=>D4.rec (motive:=λ_=>T4 α) (.nd (f .e) .e .e .e) (.nd .e (f .e) .e .e) (.nd .e .e (f .e) .e) (.nd .e .e .e<|f .e) x)
  (λa b c d _ _ _ _=>D4.rec (motive:=λ_=>T4 α) (.nd (f a) b c d) (.nd a (f b) c d) (.nd a b (f c) d) (.nd a b c<|f d) x) t) p
noncomputable def Eh(p:E D4):T4 α->T4 α:=kM (motive:=λ_=>T4 α->T4 α)
 (λ_=> .e)
 (λx _ f t=>T4.rec (motive:=λ_=>T4 α) .e (λ_=> .e)
  (λa b c d _ _ _ _=>D4.rec (motive:=λ_=>T4 α) (.nd (f a) b c d) (.nd a (f b) c d) (.nd a b (f c) d) (.nd a b c<|f d) x) t) p
def y6:∀p:E D4,jx p (.e:T4 α)=none
 |[]=>rfl
 |_::_=>rfl
def HE(v:α):∀(p:E D4)(t:T4 α),jx p (jH p v t)=ad v
 |[],_=>rfl
 |x::p,t=>by cases t<;>cases x<;>exact HE v p _
def Ei(v:α):∀(p a:E D4)(t:T4 α),Z p=Z a->p≠a->jx a (jH p v t)=jx a t
 |[],[],_,_,h=>absurd J h
 |[],_::_,_,h,_=>by simp at h
 |_::_,[],_,h,_=>by simp at h
 |x::p,g::a,t,hl,h=>by
  have b:Z p=Z a:=tG;by_cases d:x=g
  .subst d;have f:p≠a:=λe=>h (by rw[e])
   cases t<;>cases x<;>first|exact Ei v p a _ b f|exact(Ei v p a _ b f).trans<|y6 a
  .cases t<;>cases x<;>cases g<;>first|rfl|exact y6 a|exact absurd rfl d
def RH:∀(p:E D4)(t:T4 α),jx p (Eh p t)=none
 |[],_=>rfl
 |x::p,t=>by cases t<;>cases x<;>first|rfl|exact RH p _
def RI:∀(p a:E D4)(t:T4 α),Z p=Z a->p≠a->jx a (Eh p t)=jx a t
 |[],[],_,_,h=>absurd J h
 |[],_::_,_,h,_=>by simp at h
 |_::_,[],_,h,_=>by simp at h
 |x::p,g::a,t,hl,h=>by
  have d:Z p=Z a:=tG;by_cases b:x=g
  .subst b;have f:p≠a:=λe=>h (by rw[e])
   cases t<;>cases x<;>first|rfl|exact RI p a _ d f
  .cases t<;>cases x<;>cases g<;>first|rfl|exact absurd rfl b
end
def nP:V->D4
 |0=> .a
 |1=> .b
 |2=> .c
 |_=> .d
def cV:V->V->E D4
 |0,_=>[]
 |n+1,t=>nP (t/4^n)::cV n (t%4^n)
def RJ:∀n t,(cV n t).length=n
 |0,_=>rfl
 |n+1,t=>by simp[cV,RJ n]
def LO{a b}(g:a<4)(i:b<4)(h:nP a=nP b):a=b:=by have d:a=0\/a=1\/a=2\/a=3:=G;have f:b=0\/b=1\/b=2\/b=3:=G;rcases d with rfl|rfl|rfl|rfl<;>rcases f with rfl|rfl|rfl|rfl<;>first|rfl| (simp[nP]at h)
def Bs:∀(n:V){a b:V},a<4^n->b<4^n->cV n a=cV n b->a=b
 |0,a,b,d,f,_=>by simp at d f;omega
 |n+1,a,b,d,f,h=>by simp only[cV,KK]at h;have g:0<4^n:=km D;have i:a/4^n=b/4^n:=LO (yT<|by rw[fQ]at d;omega) (yT<|by rw[fQ]at f;omega) h.1;have k:a%4^n=b%4^n:=Bs n (fN _ g) (fN _ g) h.2;rw[<-ru a (4^n),<-ru b (4^n),i,k]
abbrev Tr:=T4 AV
abbrev Mem:=E<|V×aD
section
variable{α:Type}
noncomputable def mA(a:V)(l:E (V×α)):au α:=kM (motive:=λ_=>au α) none
 (λh _ b=>Prod.rec (motive:=λ_=>au α) (λk x=>y7 (motive:=λ_=>au α) b (ad x)<|il k a) h) l
noncomputable def HG(a:V)(v:α)(l:E (V×α)):E (V×α):=kM (motive:=λ_=>E<|V×α) [(a,v)]
 (λh r b=>Prod.rec (motive:=λ_=>E<|V×α) (λk x=>y7 (motive:=λ_=>E<|V×α) ((k,x)::b) ((a,v)::r)<|il k a) h) l
def xv(a:V):∀l:E (V×α),mA a l=U a l
 |[]=>rfl
 | (k,x)::b=>by
  have d:=xv a b;show y7 (motive:=λ_=>au α) (mA a b) (ad x) (il k a)=_;simp only[U];by_cases h:k=a
  .subst h;rw[Bt,q J]
  .have:il k a=ah:=by
    cases f:il k a
    .rfl
    .exact absurd (kO f) h
   rw[this,y h];exact d
def YS(a:V)(v:α):∀l:E (V×α),HG a v l=iA a v l
 |[]=>rfl
 | (k,x)::b=>by
  have d:=YS a v b;show y7 (motive:=λ_=>E<|V×α) ((k,x)::HG a v b) ((a,v)::b) (il k a)=_;simp only[iA];by_cases h:k=a
  .subst h;rw[Bt,q J]
  .have:il k a=ah:=by
    cases f:il k a
    .rfl
    .exact absurd (kO f) h
   rw[this,y h];simp only[d]
end
noncomputable def dv(dep n:V)(t:Tr):E (V×AV):=(List.range n).filterMap λj=>(jx (cV dep j) t).map λv=>(j,v)
noncomputable def bm(dep n:V)(t:Tr)(m:Mem):St:=⟨dv dep n t,m,0,[]⟩
def YT{d:Type}(g:V->au d)(t:V):∀l:E V,U t (l.filterMap λa=>(g a).map λv=>(a,v))=if t∈l then g t else none
 |[]=>rfl
 |a::l=>by
  have b:=YT g t l;simp only[List.filterMap_cons];cases hg:g a with
  |none=>
   simp only[Option.map_none,b,bZ]
   by_cases h:t=a
   .subst h;simp[hg]
   .simp[h]
  |some v=>
   simp only[vH,U,b,bZ]
   by_cases h:a=t
   .subst h;simp[hg]
   .have:t≠a:=λe=>h e.symm
    simp[h,this]
def sM dep n t a:U a (dv dep n t)=if a<n then jx (cV dep a) t else none:=by unfold dv;rw[YT (λa=>jx (cV dep a) t) a];simp only[pO]
def Ej(dep n:V)(t:Tr)(m:Mem):(bm dep n t m).kn=λ| .s a=>((if a<n then jx (cV dep a) t else none)).map .v| .m id=>(U id m).map .b:=by
 funext k;cases k with
 |s a=>simp only[bm,St.kn,sM]
 |m id=>rfl
def YU dep n(t:Tr) d a v(g:n<=4^dep)(f:d<n):U a (dv dep n<|jH (cV dep d) v t)=if d=a then ad v else U a (dv dep n t):=by
 rw[sM,sM];by_cases h:d=a
 .subst h;simp[f,HE]
 .rw[y h];by_cases b:a<n
  .rw[q b,q b,Ei _ _ _ _ Ek<|λe=>h<|Bs dep G G e]
  .rw[y b,y b]
def akd dep n(t:Tr) d a(g:n<=4^dep)(f:d<n):U a (dv dep n<|Eh (cV dep d) t)=if d=a then none else U a (dv dep n t):=by
 rw[sM,sM];by_cases h:d=a
 .subst h;simp[f,RH]
 .rw[y h];by_cases b:a<n
  .rw[q b,q b,RI _ _ _ Ek<|λe=>h<|Bs dep G G e]
  .rw[y b,y b]
def Em dep n(t:Tr)(m:Mem) d v(a:n<=4^dep)(b:d<n):(bm dep n (jH (cV dep d) v t) m).kn=bs (bm dep n t m).kn [(.s d,ad<|.v v)]:=by
 funext k;cases k with
 |s j=>
  simp only[bm,St.kn,bs,aC,Key.s.injEq,YU dep n t d j v a b]
  split<;>simp
 |m id=>simp[bm,St.kn,bs,aC]
def ake dep n(t:Tr)(m:Mem) d(a:n<=4^dep)(b:d<n):(bm dep n (Eh (cV dep d) t) m).kn=bs (bm dep n t m).kn [(.s d,none)]:=by
 funext k;cases k with
 |s j=>
  simp only[bm,St.kn,bs,aC,Key.s.injEq,akd dep n t d j a b]
  split<;>simp
 |m id=>simp[bm,St.kn,bs,aC]
def YV dep n t(m f:Mem) wr(h:∀a,(U a f).map Info.b=bs (bm dep n t m).kn wr (.m a))(g:∀d,aC wr (.s d)=none):(bm dep n t f).kn=bs (bm dep n t m).kn wr:=by
 funext k;cases k with
 |s d=>simp[bm,St.kn,bs,g d]
 |m a=>exact h a
def LP:Int->Int->Bool
 | .ofNat m,.ofNat n=>dU m n
 | .negSucc _,.ofNat _=>ae
 | .negSucc m,.negSucc n=>dU n m
 | .ofNat _,.negSucc _=>ah
def RK:Int->Int->Bool
 | .ofNat m,.ofNat n=>il m n
 | .negSucc m,.negSucc n=>il m n
 |_,_=>ah
def YW a b:LP a b=decide (a<=b):=by cases a<;>cases b<;>simp only[LP]<;>rw[Bool.eq_iff_iff]<;>simp[Nat.ble_eq]<;>omega
def akf a b:RK a b=decide (a=b):=by cases a<;>cases b<;>simp only[RK]<;>rw[Bool.eq_iff_iff]<;>simp<;>omega
def LR:Int->Bool
 | .ofNat m=>dt m 9223372036854775808
 | .negSucc m=>dt m 9223372036854775808
def akg{n}(h:LR n=ae):fX n:=by
 cases n with
 |ofNat m=>simp only[LR,sO]at h;unfold fX;simp only[Int.ofNat_eq_natCast];omega
 |negSucc m=>simp only[LR,sO]at h;unfold fX;omega
def ui:Pr->Bool
 | .t=>ae
 | .i64 n=>LR n
 | .AP b=>Bool.not<|RK b 0
 | .le a b=>LP a b
 | .lt a b=>Bool.not<|LP b a
 | .AQ a b=>dt a b
 | .tz a b=>a==b
 | .and p d=>match ui p with
  |true=>ui d
  |false=>ah
def En:∀{p:Pr},ui p=ae->p.h
 | .t,_=>trivial
 | .i64 _,h=>akg h
 | .AP b,h=>by simp only[ui,akf]at h;simpa[Pr.h]using h
 | .le a b,h=>by simp only[ui,YW]at h;simpa[Pr.h]using h
 | .lt a b,h=>by simp only[ui,YW]at h;simpa[Pr.h]using h
 | .AQ a b,h=>by simpa[ui,Pr.h,sO]using h
 | .tz a b,h=>by simpa[ui,Pr.h]using h
 | .and p f,h=>by
  simp only[ui]at h;split at h
  .rename_i d;exact⟨En d,En h⟩
  .cases h
def Eo(k:V):C->Bool
 | .P id _=>dt id k
 | .X id=>dt id k
 | .Y id _ _ _=>dt id k
 | .L id _ _ _=>dt id k
 | .W id _ _=>dt id k
 |_=>ae
def YX{k}{a}(h:Eo k a=ae):∀b∈a.ak,b<k:=by cases a<;>simp only[Eo,C.ak,sO]at h⊢<;>simp<;>exact h
noncomputable def uj(k:V)(l:E C):Bool:=kM (motive:=λ_=>Bool) ae (λc _ a=>y7 (motive:=λ_=>Bool) ah a<|Eo k c) l
def y8{k:V}:∀{l:E C},uj k l=ae->∀b∈cp l,b<k
 |[],_=>by simp[cp]
 |f::g,h=>by
  have d:y7 (motive:=λ_=>Bool) ah (uj k g) (Eo k f)=ae:=h;cases hc:Eo k f with
  |false=>rw[hc]at d;cases d
  |true=>
   rw[hc]at d
   intro b a
   simp only[cp,be]at a
   rcases a with a|a
   .exact YX hc b a
   .exact y8 d b a
noncomputable def HH(k:V)(l:E (Bool×E C)):Bool:=kM (motive:=λ_=>Bool) ae (λc _ a=>y7 (motive:=λ_=>Bool) ah a<|uj k c.2) l
def LS{k:V}:∀{l:E (Bool×E C)},HH k l=ae->∀b∈eG l,b<k
 |[],_=>by simp[eG]
 |f::g,h=>by
  have d:y7 (motive:=λ_=>Bool) ah (HH k g) (uj k f.2)=ae:=h;cases hc:uj k f.2 with
  |false=>rw[hc]at d;cases d
  |true=>
   rw[hc]at d
   intro b a
   simp only[eG,be]at a
   rcases a with a|a
   .exact y8 hc b a
   .exact LS d b a
noncomputable def YY(k:V):AV->Bool
 | .c x=>Eo k x
 | .a cs=>uj k cs
 | .t b=>HH k b
def akh{k}{v}(h:YY k v=ae):∀b∈v.ak,b<k:=by
 cases v with
 |c x=>exact YX h
 |a cs=>exact y8 h
 |t d=>exact LS h
inductive Pd where
 |s (p:E D4)
 |k (v:AV)
noncomputable def jT(t:Tr):Pd->au AV
 | .s p=>jx p t
 | .k v=>ad v
noncomputable def xw(t:Tr)(l:E Pd):au (E AV):=kM (motive:=λ_=>au<|E AV) (ad [])
 (λx _ a=>match jT t x with
  |some v=>(match a with
   |some vs=>ad<|v::vs
   |none=>none)
  |none=>none) l
def iL(dep n:V):eQ->au Pd
 | .tmp a=>(match dt a n with
  |true=>ad<|.s<|cV dep a
  |false=>none)
 | .const v=>ad<|.k<|Dj v
 | .func f=>ad<|.k<|.c<|.V<|.func (.func f) #[] #[]
 | .global _=>none
def xx(dep n:V):E eQ->au (E Pd)
 |[]=>ad []
 |x::xs=>(match iL dep n x,xx dep n xs with
  |some p,ad ps=>ad<|p::ps
  |_,_=>none)
abbrev Ms:=E Mem
noncomputable def bw(a:V)(d:Ms):au aD:=kM (motive:=λ_=>au aD) none
 (λm _ f=>match mA a m with
  |some b=>ad b
  |none=>f) d
noncomputable def qq(a:V)(b:aD)(d:Ms):Ms:=kM (motive:=λ_=>Ms) []
 (λm r f=>match mA a m with
  |some _=>HG a b m::r
  |none=>m::f) d
def uk(a:V):Ms->Ms
 |[]=>[]
 |m::b=>sF a m::uk a b
def y'(k:V)(b:aD):Ms->Ms
 |m::a=>((k,b)::m)::a
 |[]=>[[(k,b)]]
def jy(a:V):∀d:Ms,U a d.flatten=bw a d
 |[]=>rfl
 |m::f=>by
  have g:=jy a f;show _=match mA a m with|some b=>ad b|none=>bw a f
  rw[K5,Hw,xv,g];cases U a m<;>rfl
def Ep(d a:V)(b:aD):∀i:Ms,bw d (qq a b i)=match bw a i with
  |some _=>if a=d then ad b else bw d i
  |none=>bw d i
 |[]=>rfl
 |m::f=>by
  have l:=Ep d a b f;have k:∀d(m:Mem)(f:Ms),bw d (m::f)=match mA d m with|some b=>ad b|none=>bw d f:=λ_ _ _=>rfl
  have n:qq a b (m::f)=match mA a m with|some _=>HG a b m::f|none=>m::qq a b f:=rfl
  rw[n,k a m f];cases h:mA a m with
  |some x=>
   simp only[k,xv,YS,ox]
   by_cases g:a=d
   .simp[g]
   .simp[g]
  |none=>
   simp only[k,l]
   cases h2:bw a f with
   |none=>rfl
   |some x=>
    by_cases g:a=d
    .subst g;simp[h]
    .simp[g]
def Bu(a d:V):∀g:Ms,bw a (uk d g)=if d=a then none else bw a g
 |[]=>by simp[uk,bw]
 |m::f=>by
  have h:=Bu a d f;have i:∀a(m:Mem)(f:Ms),bw a (m::f)=match mA a m with|some b=>ad b|none=>bw a f:=λ_ _ _=>rfl
  simp only[uk,i,xv,A2,h];by_cases k:d=a<;>simp[k]
def HI a k b ms:bw a (y' k b ms)=if k=a then ad b else bw a ms:=by
 have d:∀a(m:Mem)(r:Ms),bw a (m::r)=match mA a m with|some b=>ad b|none=>bw a r:=λ_ _ _=>rfl
 cases ms with
 |nil=>simp only[y',d,xv,U];by_cases h:k=a<;>simp[h,bw]
 |cons m r=>simp only[y',d,xv,U];by_cases h:k=a<;>simp[h]
inductive Ft where
 |n
 |m (rd a:E V)
 |c (k b:V) (d:E V)
inductive Rs where
 |no
 |ok (t:Tr) (ms:Ms) (k:V) (a:E V) (f:Ft)
inductive Cr where
 |no
 |ok (r:AV) (ms:Ms) (k:V) (a:E V)
abbrev mB:=iK->E AV->Ms->V->Cr
inductive LU where
 |mv (d:E D4) (x:Pd)
 |bin (d:E D4) (op:BinOp) (a:V) (x b:Pd)
 |idx (d:E D4) (a:V) (x i:Pd)
 |YZ (d:E D4) (a:V) (x:Pd) (f:V)
 |ext (d:E D4) (x:Pd) (k:V)
 |len (d:E D4) (a:V) (x:Pd)
 |ld (d:E D4) (a:V) (x:Pd)
 |st (a:V) (x b:Pd)
 |gen (d:au (V×E D4)) (sl:E (V×E D4)) (op:Op)
 |call (d:E D4) (f:iK) (args:E Pd)
 |Y0 (d:E D4) (x:Pd) (args:E Pd)
noncomputable def uo(d:E D4)(v:AV)(t:Tr)(a:Ms)(k:V)(b:E V)(f:Ft):Rs:=match YY k v with
 |true=> .ok (jH d v t) a k b f
 |false=> .no
noncomputable def LV(d:E D4)(a:au (AV×Pr))(t:Tr)(b:Ms)(k:V)(f:E V):Rs:=match a with
 |some (v,p)=>(match ui p with
  |true=>uo d v t b (k+1) f .n
  |false=> .no)
 |none=> .no
def Y1(a:TT)(b:V)(v w:AV):au (AV×Pr):=match Lk a b v w with
 |some r=>ad r
 |none=>KG a b v w
def Y2(a:TT)(b:V)(v:AV):au AV:=match Ll a b v with
 |some r=>ad r
 |none=>GC a b v
noncomputable def LW(l:E C):V->au C:=kM (motive:=λ_=>V->au C) (λ_=>none) (λc _ a n=>LX (motive:=λ_=>au C) (ad c) (λm _=>a m) n) l
noncomputable def Y3(n:V):E C->E C:=LX (motive:=λ_=>E C->E C) (λl=>l) (λ_ a l=>kM (motive:=λ_=>E C) [] (λ_ r _=>a r) l) n
def Bv(a:C):au (E C)->au (E C)
 |some b=>ad<|a::b
 |none=>none
noncomputable def RL(n:V):E C->au (E C):=LX (motive:=λ_=>E C->au (E C)) (λ_=>ad []) (λ_ a l=>kM (motive:=λ_=>au<|E C) none (λc r _=>Bv c<|a r) l) n
noncomputable def RM(a:E C):E C->au (E C):=kM (motive:=λ_=>E C->au (E C)) (λl=>ad l) (λu _ b l=>kM (motive:=λ_=>au<|E C) none (λ_ r _=>Bv u<|b r) l) a
noncomputable def RN(b:E C)(a:V):E C->au (E C):=LX (motive:=λ_=>E C->au (E C)) (RM b) (λ_ d l=>kM (motive:=λ_=>au<|E C) none (λc r _=>Bv c<|d r) l) a
def Y4:∀(l:E C)(n:V),LW l n=l[n]?
 |[],n=>by simp[LW]
 |b::a,0=>rfl
 |b::a,n+1=>by show LW a n=_;rw[Y4 a n,vu]
def Y5:∀(n:V)(l:E C),Y3 n l=ay n l
 |0,l=>rfl
 |n+1,[]=>rfl
 |n+1,b::a=>Y5 n a
def RO{b}{o}{x}(h:Bv b o=ad x):∃a,o=ad a/\x=b::a:=by
 cases o with
 |none=>cases h
 |some a=>cases h;exact⟨a,J,J⟩
def Y6:∀(n:V)(l x:E C),RL n l=ad x->n<=Z l/\x=M n l
 |0,l,x,h=>by cases h;exact⟨bf _,J⟩
 |n+1,[],x,h=>by cases h
 |n+1,b::a,x,h=>by obtain⟨d,f,rfl⟩:=RO (show Bv b (RL n a)=ad x from h);let ⟨g,h2⟩:=Y6 n a d f;exact⟨by simpa using g,by simp[h2]⟩
def Y7:∀(a l x:E C),RM a l=ad x->Z a<=Z l/\x=a++ay (Z a) l
 |[],l,x,h=>by cases h;exact⟨bf _,J⟩
 |u::a,[],x,h=>by cases h
 |u::a,i::b,x,h=>by obtain⟨d,f,rfl⟩:=RO (show Bv u (RM a b)=ad x from h);let ⟨g,h2⟩:=Y7 a b d f;exact⟨by simpa using g,by simp[h2]⟩
def Y8(b:E C):∀(a:V)(l x:E C),RN b a l=ad x->a+Z b<=Z l/\x=cF l b a
 |0,l,x,h=>by let ⟨d,h2⟩:=Y7 b l x h;exact⟨G,by simp[cF,h2]⟩
 |a+1,[],x,h=>by cases h
 |a+1,c::r,x,h=>by obtain⟨y,f,rfl⟩:=RO (show Bv c (RN b a r)=ad x from h);let ⟨d,h2⟩:=Y8 b a r y f;refine⟨bX,?_⟩;simp[cF,h2,(G:a+1+Z b=a+Z b+1)]
noncomputable def HJ(d:E C)(b sz:V)(f:Bool):au AV:=match f with
 |true=>(match RL sz (Y3 b d)with
  |some x=>ad<|.a x
  |none=>none)
 |false=>(match LW d b with
  |some c=>ad<|.c c
  |none=>none)
def RP{b}{a sz}{d}{x}(h:HJ b a sz d=ad x)(i:sz=0->a<=Z b):nD b a sz d=ad x:=by
 unfold HJ at h;unfold nD;split at h
 .split at h
  .rename_i y k;cases h;let ⟨f,h2⟩:=Y6 _ _ _ k;rw[Y5]at f h2;rw[q J,q (by simp at f;by_cases l:sz=0;have:=i l;omega;omega),h2]
  .cases h
 .split at h
  .rename_i c g;cases h;rw[Y4]at g;simp[g]
  .cases h
noncomputable def RQ(b:TT)(d:Ms)(f:V)(v:AV):au (AV×E V):=match ou b f with
 |some (0,_)=>none
 |some (sz,a)=>(match v with
  | .c (.P id off)=>(match bw id d with
   |some (.box _ _ cs)=>(match HJ cs off sz a with
    |some y=>ad (y,[id])
    |none=>none)
   |some (.fz _ cs)=>(match HJ cs off sz a with
    |some y=>ad (y,[id])
    |none=>none)
   |_=>none)
  | .c (.E T e off)=>(match HJ (av T e) off sz a with
   |some y=>ad (y,[])
   |none=>none)
  |_=>none)
 |none=>none
def LY:E C->Bool
 |[]=>ae
 |a::b=>match kd a with
  |true=>LY b
  |false=>ah
def Y9:∀{l:E C},LY l=ae->l.all kd=ae
 |[],_=>rfl
 |b::d,h=>by
  simp only[LY]at h;split at h
  .rename_i a;simp[a,Y9 h]
  .cases h
noncomputable def Y'(d b sz:V)(a:E C):au aD->au (V×aD×E C)
 |some (.box f g cs)=>(match il (Z a) sz&&LY a with
  |true=>(match RN a b cs with
   |some x=>ad (d,.box f g x,a)
   |none=>none)
  |false=>none)
 |_=>none
noncomputable def RR(a:TT)(b:Ms)(d:V)(x v:AV):au (V×aD×E C):=match ou a d,x,kI v with
 |some (sz,_),.c (.P id off),ad us=>Y' id off sz us<|bw id b
 |_,_,_=>none
def Bx(d a:V)(b:E V):E V:=match dt a d with
 |true=>a::b
 |false=>b
def LZ(d:V)(a b:E V):E V:=match a with
 |[]=>b
 |_=>a.filter (λf=>dt f d)++b
noncomputable def L0(k:V):E (E C×E C)->Bool
 |[]=>ae
 |x::a=>match uj k x.1 with
  |true=>(match uj k x.2 with
   |true=>L0 k a
   |false=>ah)
  |false=>ah
def Za{k:V}:∀{xs:E (E C×E C)},L0 k xs=ae->∀b∈mW xs,b<k
 |[],_,b,a=>by simp[mW]at a
 |x::g,h,b,a=>by
  simp only[L0]at h;split at h
  .rename_i d;split at h
   .rename_i f;simp only[mW,be]at a;rcases a with a|a|a
    .exact y8 d b a
    .exact y8 f b a
    .exact Za h b a
   .cases h
  .cases h
noncomputable def HK(k:V):aD->Bool
 | .box _ _ cs=>uj k cs
 | .vec _ _ _=>ae
 | .dI _ a b=>match HH k a with
  |true=>HH k b
  |false=>ah
 | .fz _ cs=>uj k cs
 | .mp _ _ xs=>L0 k xs
 | .it m _ _=>dt m k
def Zb{k}{b}(h:HK k b=ae):∀g∈b.ak,g<k:=by
 cases b with
 |box E z cs=>exact y8 h
 |vec E T xs=>simp[aD.ak]
 |dI f a b=>
  simp only[HK]at h
  split at h
  .rename_i i;intro g d;simp only[aD.ak,be]at d;exact d.elim (LS i g)<|LS h g
  .cases h
 |fz E cs=>exact y8 h
 |mp l o xs=>exact Za h
 |it m n seen=>simpa[aD.ak,HK]using h
noncomputable def nQ(b:E (V×E D4))(t:Tr):E (V×AV):=kM (motive:=λ_=>E<|V×AV) []
 (λx _ a=>match jx x.2 t with
  |some v=>(x.1,v)::a
  |none=>a) b
def za:E (V×AV)->E V
 |[]=>[]
 | (_,v)::a=>v.ak++za a
noncomputable def sQ(a:E V)(g:Ms):Mem:=kM (motive:=λ_=>Mem) []
 (λd _ f=>match bw d g with
  |some b=>(d,b)::f
  |none=>f) a
def Zc:Hu:=λ_ _ _ _=>none
def mK:E Key->E V
 |[]=>[]
 | .m id::a=>id::mK a
 | .s _::a=>mK a
def wS(d:au V):E Key->Bool
 |[]=>ae
 | .m _::a=>wS d a
 | .s b::a=>(match d with
  |some d=>(match il d b with
   |true=>wS (ad d) a
   |false=>ah)
  |none=>ah)
def By(a:V):E V->Bool
 |[]=>ah
 |x::b=>match il x a with
  |true=>ae
  |false=>By a b
def rS(a:E V):E Key->Bool
 |[]=>ae
 | .m _::b=>rS a b
 | .s d::b=>(match By d a with
  |true=>rS a b
  |false=>ah)
noncomputable def Bz(k l:V)(m f:Mem)(h:E V):Ms->E V->au (Ms×E V):=kM (motive:=λ_=>Ms->E V->au (Ms×E V))
 (λd g=>ad (d,g))
 (λa _ i d g=>match mA a f with
  |some b=>(match HK (k+1) b with
   |true=>(match il a k with
    |true=>i (y' k b d) g
    |false=>(match bw a d with
     |some _=>i (qq a b d)<|Bx l a g
     |none=>none))
   |false=>none)
  |none=>(match mA a m with
   |some _=>i (uk a d)<|Bx l a g
   |none=>none)) h
noncomputable def RS(o:TT)(n u:V)(d:au (V×E D4))(w:E (V×E D4))(op:Op)(t:Tr)(p:Ms)(k:V)(s:E V)(b:E (V×AV))(i:Mem):Rs:=
 match RB Zc o n k (d.map (·.1)) op ⟨b,i,0,[]⟩with
 |some (f,x,a)=>(match il x (k+1)&&wS (d.map (·.1)) a.2&&rS (w.map (·.1)) a.1 with
  |true=>(match Bz k u i f.mem (mK a.2) p s with
   |some (g,h)=>(match d with
    |none=> .ok t g (k+1) h<|.m (mK a.1)<|mK a.2
    |some (B,l)=>(match U B f.sl with
     |some v=>uo l v t g (k+1) h<|.m (mK a.1)<|mK a.2
     |none=> .no))
   |none=> .no)
  |false=> .no)
 |none=>(match d with
  |some (_,l)=>LV l (vQ o ⟨b,i,0,[]⟩ op) t p k s
  |none=> .no)
noncomputable def Er(b:mB)(i:V)(d:E D4)(f:iK)(vs:E AV)(t:Tr)(l:Ms)(k:V)(m:E V):Rs:=match b f vs l k with
 | .ok r g h a=>uo d r t g h (LZ i a m)<|.c k h a
 | .no=> .no
noncomputable def RT(d:E D4)(x:Pd)(t:Tr)(a:Ms)(k:V)(b:E V):Rs:=match jT t x with
 |some v=>uo d v t a (k+1) b .n
 |none=> .no
noncomputable def Zd(f:TT)(d:E D4)(op:BinOp)(g:V)(a b:C)(t:Tr)(h:Ms)(k:V)(i:E V):Rs:=match RD f op g (.c a) (.c b)with
 |some u=>uo d u t h (k+1) i .n
 |none=> .no
noncomputable def Ze(d:E D4)(a:C)(p:Pr)(t:Tr)(b:Ms)(k:V)(f:E V):Rs:=match ui p with
 |true=> .ok (jH d (.c a) t) b (k+1) f .n
 |false=> .no
noncomputable def Zf(f:TT)(d:E D4)(op:BinOp)(g:V)(a b:C)(t:Tr)(h:Ms)(k:V)(i:E V):Rs:=match Dq f op g a b with
 |some (c,p)=>Ze d c p t h k i
 |none=>Zd f d op g a b t h k i
noncomputable def Zg(f:TT)(d:E D4)(op:BinOp)(g:V)(x h:Pd)(t:Tr)(i:Ms)(k:V)(l:E V):Rs:=match jT t x,jT t h with
 |some (.c a),ad (.c b)=>Zf f d op g a b t i k l
 |_,_=> .no
noncomputable def Zh(a:TT)(d:E D4)(b:V)(x i:Pd)(t:Tr)(f:Ms)(k:V)(g:E V):Rs:=match jT t x,jT t i with
 |some v,ad w=>LV d (Y1 a b v w) t f k g
 |_,_=> .no
noncomputable def Zi(a:TT)(d:E D4)(b:V)(x:Pd)(f:V)(t:Tr)(g:Ms)(k:V)(h:E V):Rs:=match jT t x with
 |some v=>(match KD a b v f with
  |some u=>uo d u t g (k+1) h .n
  |none=> .no)
 |none=> .no
noncomputable def Zj(d:E D4)(x:Pd)(a:V)(t:Tr)(b:Ms)(k:V)(f:E V):Rs:=match jT t x with
 |some v=>(match KE v a with
  |some u=>uo d u t b (k+1) f .n
  |none=> .no)
 |none=> .no
noncomputable def Zk(a:TT)(d:E D4)(b:V)(x:Pd)(t:Tr)(f:Ms)(k:V)(g:E V):Rs:=match jT t x with
 |some v=>(match Y2 a b v with
  |some u=>uo d u t f (k+1) g .n
  |none=> .no)
 |none=> .no
noncomputable def Zl(b:TT)(d:E D4)(f:V)(x:Pd)(t:Tr)(a:Ms)(k:V)(g:E V):Rs:=match jT t x with
 |some v=>(match RQ b a f v with
  |some (u,ids)=>uo d u t a (k+1) g<|.m ids []
  |none=> .no)
 |none=> .no
noncomputable def Zm(d a:V)(b:aD)(f:E C)(t:Tr)(g:Ms)(k:V)(h:E V):Rs:=match uj k f with
 |true=> .ok t (qq a b g) (k+1) (Bx d a h)<|.m [a] [a]
 |false=> .no
noncomputable def Zn(d:TT)(f:V)(g:V)(x h:Pd)(t:Tr)(a:Ms)(k:V)(i:E V):Rs:=match jT t x,jT t h with
 |some v,ad w=>(match RR d a g v w with
  |some (id,b,us)=>Zm f id b us t a k i
  |none=> .no)
 |_,_=> .no
noncomputable def aki(g:TT)(n h:V)(d:au (V×E D4))(b:E (V×E D4))(op:Op)(t:Tr)(f:Ms)(k:V)(i:E V):Rs:=match nQ b t with
 |a=>RS g n h d b op t f k i a<|sQ (za a) f
noncomputable def Zo(a:mB)(b:V)(d:E D4)(f:iK)(args:E Pd)(t:Tr)(g:Ms)(k:V)(h:E V):Rs:=match xw t args with
 |some vs=>Er a b d f vs t g k h
 |none=> .no
noncomputable def Zp(a:mB)(g:V)(d:E D4)(x:Pd)(args:E Pd)(t:Tr)(b:Ms)(k:V)(h:E V):Rs:=match xw t args with
 |some vs=>(match jT t x with
  |some (.c<|.V<|.func (.func f) ⟨[]⟩ ⟨[]⟩)=>Er a g d f vs t b k h
  |some (.c<|.X id)=>(match bw id b with
   |some (.dI f first caps)=>(match rz first,rz caps with
    |some us,ad ws=>Er a g d f (us++(vs++ws)) t b k h
    |_,_=> .no)
   |_=> .no)
  |_=> .no)
 |none=> .no
noncomputable def qt(b:mB)(a:TT)(n g:V)(i:LU):Tr->Ms->V->E V->Rs:=match i with
 | .mv d x=>RT d x
 | .bin d op ty x y=>Zg a d op ty x y
 | .idx d ty x i=>Zh a d ty x i
 | .YZ d ty x f=>Zi a d ty x f
 | .ext d x j=>Zj d x j
 | .len d ty x=>Zk a d ty x
 | .ld d ty x=>Zl a d ty x
 | .st ty x y=>Zn a g ty x y
 | .gen d sl op=>aki a n g d sl op
 | .call d f args=>Zo b g d f args
 | .Y0 d x args=>Zp b g d x args
structure GI where
 g:au (E D4×Bool)
 d:au (E D4)
 i:LU
noncomputable def vS(a:mB)(l:TT)(n m:V)(x:GI)(t:Tr)(f:Ms)(k:V)(h:E V):Rs:=match x.g with
 |none=>qt a l n m x.i t f k h
 |some (o,want)=>(match jx o t with
  |some (.c<|.B b)=>(match b==want with
   |true=>qt a l n m x.i t f k h
   |false=>(match x.d with
    |some d=> .ok (Eh d t) f (k+1) h .n
    |none=> .no))
  |_=> .no)
noncomputable def vT(a:mB)(h:TT)(n i:V)(l:E GI):Tr->Ms->V->E V->Rs:=kM (motive:=λ_=>Tr->Ms->V->E V->Rs)
 (λt b k d=> .ok t b k d .n)
 (λx _ m t b k d=>match vS a h n i x t b k d with
  | .ok o f p g _=>m o f p g
  | .no=> .no) l
inductive Rd where
 |no
 |ok (t:Tr) (ms:Ms) (k:V) (a:E V) (fs:E Ft)
noncomputable def xy(a:mB)(m:TT)(n o:V)(l:E GI):Tr->Ms->V->E V->E Ft->Rd:=kM (motive:=λ_=>Tr->Ms->V->E V->E Ft->Rd)
 (λt b k d g=> .ok t b k d g)
 (λx _ p t b k d g=>match vS a m n o x t b k d with
  | .ok s h u i f=>p s h u i<|f::g
  | .no=> .no) l
def Es:E V->E V->Bool
 |[],_=>ah
 |x::a,l=>match By x l with
  |true=>ae
  |false=>Es a l
def HL(k a:V)(b:E V):E V->Bool
 |[]=>ah
 |x::d=>match By x b with
  |true=>ae
  |false=>(match dU k x&&dt x a with
   |true=>ae
   |false=>HL k a b d)
def HM(k:V):E V->Bool
 |[]=>ah
 |x::a=>match dt x k with
  |true=>ae
  |false=>HM k a
def BA:Ft->Ft->Bool
 | .n,_=>ah
 |_,.n=>ah
 | .m a w,.m f d=>Es w d||Es w f||Es a d
 | .m a w,.c k b wl=> !w.isEmpty||HL k b wl a
 | .c k b wl,.m a w=>HM k w||HM b w||HL k b wl a
 | .c _ _ _,.c _ _ _=>ae
def Et(a:E Ft):E (V×V)->Bool
 |[]=>ae
 | (i,b)::d=>match BA (a.getD i .n) (a.getD b .n)with
  |true=>ah
  |false=>Et a d
def oT:Op->E eQ
 | .call ⟨.value a,args,_⟩=>a::args.toList
 |op=>op.operands.toList
def slotsOf:E eQ->E V
 |[]=>[]
 | .tmp b::a=>b::slotsOf a
 |_::a=>slotsOf a
def Eu(dep n:V):E V->au (E<|V×E D4)
 |[]=>ad []
 |a::b=>(match dt a n,Eu dep n b with
  |true,ad l=>ad<|(a,cV dep a)::l
  |_,_=>none)
def L1(dep n:V)(d:au V)(op:Op):au LU:=match Eu dep n (slotsOf op.operands.toList)with
 |some sl=>(match d with
  |some d=>ad<|.gen (ad (d,cV dep d)) sl op
  |none=>ad<|.gen none sl op)
 |none=>none
def HO(dep n:V)(d:au V)(op:Op):au LU:=match d with
 |none=>(match op with
  | .store t x y=>(match iL dep n x,iL dep n y with
   |some p,ad q=>ad<|.st t p q
   |_,_=>none)
  |op=>L1 dep n none op)
 |some d=>(match dt d n with
  |false=>none
  |true=>(match op with
   | .move x=>(match iL dep n x with
    |some p=>ad<|.mv (cV dep d) p
    |none=>none)
   | .assign x=>(match iL dep n x with
    |some p=>ad<|.mv (cV dep d) p
    |none=>none)
   | .binOp o t x y _=>(match iL dep n x,iL dep n y with
    |some p,ad q=>ad<|.bin (cV dep d) o t p q
    |_,_=>none)
   | .indexAddr t x y=>(match iL dep n x,iL dep n y with
    |some p,ad q=>ad<|.idx (cV dep d) t p q
    |_,_=>none)
   | .fieldAddr t x f=>(match iL dep n x with
    |some p=>ad<|.YZ (cV dep d) t p f
    |none=>none)
   | .extract x j=>(match iL dep n x with
    |some p=>ad<|.ext (cV dep d) p j
    |none=>none)
   | .load t x=>(match iL dep n x with
    |some p=>ad<|.ld (cV dep d) t p
    |none=>none)
   | .call ⟨.value<|.func f,args,_⟩=>(match xx dep n args.toList with
    |some ps=>ad<|.call (cV dep d) f ps
    |none=>none)
   | .call ⟨.value<|.tmp j,args,_⟩=>(match iL dep n (.tmp j),xx dep n args.toList with
    |some p,ad ps=>ad<|.Y0 (cV dep d) p ps
    |_,_=>none)
   | .call ⟨.builtin .len,⟨[x]⟩,⟨[t]⟩⟩=>(match iL dep n x with
    |some p=>ad<|.len (cV dep d) t p
    |none=>none)
   |op=>L1 dep n (ad d) op))
def RU(dep n:V)(a:E aX)(o:aX):au GI:=match HO dep n o.dst o.op with
 |some i=>(match o.guard with
  |none=>ad ⟨none,none,i⟩
  |some (j,want)=>(match rj a j with
   |some b=>(match dt b n with
    |true=>(match o.dst with
     |some d=>ad ⟨ad (cV dep b,want),ad<|cV dep d,i⟩
     |none=>ad ⟨ad (cV dep b,want),none,i⟩)
    |false=>none)
   |none=>none))
 |none=>none
def vU(dep n:V)(a:E aX):E aX->au (E GI)
 |[]=>ad []
 |o::os=>(match RU dep n a o,vU dep n a os with
  |some g,ad gs=>ad<|g::gs
  |_,_=>none)
def xA(a:E aX)(o:aX):Ks:=
 ((match o.guard with
  |none=>bJ<|oT o.op
  |some (j,_)=>(match rj a j with
   |some b=> .s b::bJ (oT o.op)
   |none=>bJ<|oT o.op)),
  match o.dst with
  |some d=>[.s d]
  |none=>[])
def nR(o:aX):Bool:=match o.dst with
 |none=>ae
 |some _=>(match o.op with
  | .move _=>ah
  | .assign _=>ah
  | .binOp _ _ _ _ _=>ah
  | .indexAddr _ _ _=>ah
  | .fieldAddr _ _ _=>ah
  | .extract _ _=>ah
  |_=>ae)
def Ev(m a:V):E aX->V->E (V×V)
 |[],_=>[]
 |o::os,i=>if i<a then(if nR o&& !m.testBit i then(i,a)::Ev m a os (i+1)else Ev m a os (i+1))else[]
def Ew(a:E aX):E V->E aX->V->E (V×V)
 |m::ms,o::os,b=>if nR o then Ev m b a 0++Ew a ms os (b+1)else Ew a ms os (b+1)
 |_,_,_=>[]
def L2(dep n:V)(a:E aX)(b:Bool):au (E GI×au (E<|V×V)):=match vU dep n a a with
 |some gs=>(match b with
  |false=>ad (gs,none)
  |true=>if pX a (a.map<|xA a)=ae then ad (gs,ad<|Ew a (pW a []) a 0)else none)
 |none=>none
def Ey(i a:V):AV->AV
 | .c (.X k)=>if k=a then .c (.X i)else .c (.X k)
 |v=>v
def EA(i a:V):E (V×AV)->E (V×AV)
 |[]=>[]
 | (t,v)::b=>(t,Ey i a v)::EA i a b
def BB(i a:V):E (V×aD)->E (V×aD)
 |[]=>[]
 | (k,b)::d=>(if k=a then i else k,b)::BB i a d
def L3(i a:V):AV->Bool
 | .c (.X k)=> !(k==i)
 |v=>v.ak.all λk=> !(k==i)&& !(k==a)
def L4(i a:V):E (V×AV)->Bool
 |[]=>ae
 | (_,v)::b=>L3 i a v&&L4 i a b
def EB(i a:V):E (V×aD)->Bool
 |[]=>ae
 | (k,b)::d=> !(k==i)&&(b.ak.all λk=> !(k==i)&& !(k==a))&&EB i a d
def Zq(i a t:V):∀l:E (V×AV),U t (EA i a l)=(U t l).map (Ey i a)
 |[]=>rfl
 | (k,v)::b=>by simp only[EA,U,Zq i a t b];split<;>rfl
def Zr{i a t:V}{v:AV}:∀{l:E (V×AV)},L4 i a l=ae->U t l=ad v->L3 i a v=ae
 |[],_,h=>by simp[U]at h
 | (k,x)::b,h,hl=>by
  simp only[L4,cD]at h;simp only[U]at hl;split at hl
  .cases hl;exact h.1
  .exact Zr h.2 hl
def Zs{i a t:V}{b:aD}:∀{l:E (V×aD)},EB i a l=ae->U t l=ad b->t≠i/\∀k∈b.ak,k≠i/\k≠a
 |[],_,h=>by simp[U]at h
 | (k,x)::g,h,hl=>by
  simp only[EB,cD,mn]at h;simp only[U]at hl;split at hl
  .rename_i d;cases hl;subst d;exact⟨by simpa using h.1.1,λk f=>by simpa using h.1.2 k f⟩
  .exact Zs h.2 hl
def RV{i g:V}(t:V){b:aD}:∀{l:E (V×aD)},EB i g l=ae->U t (BB i g l)=ad b->(t=i/\U g l=ad b)\/(t≠i/\t≠g/\U t l=ad b)
 |[],_,h=>by simp[BB,U]at h
 | (k,x)::p,h,hl=>by
  simp only[EB,cD]at h;have m:k≠i:=by simpa using h.1.1
  simp only[BB,U]at hl;by_cases a:k=g
  .rw[q a]at hl;subst a;split at hl
   .rename_i e;cases hl;exact .inl ⟨e.symm,by simp[U]⟩
   .rename_i d;rcases RV t h.2 hl with⟨rfl,_⟩|⟨n,f,o⟩
    .exact absurd J d
    .exact .inr ⟨n,f,by simp only[U];rw[y (λ(e:k=t)=>f e.symm)];exact o⟩
  .rw[y a]at hl;split at hl
   .rename_i e;cases hl;subst e;exact .inr ⟨m,a,by simp[U]⟩
   .rename_i d;rcases RV t h.2 hl with⟨rfl,f⟩|⟨n,f,o⟩
    .exact .inl ⟨J,by simp only[U,y a];exact f⟩
    .exact .inr ⟨n,f,by simp only[U,y d];exact o⟩
def gW i p{sl}{mem}{nx}{gd}(hi:dt i (1000000*nx)=ae)(hs:L4 i p sl=ae)(hm:EB i p mem=ae)(Qq:dU 1 i=ae:=by rfl):Wk ⟨sl,mem,nx,gd⟩ ⟨EA i p sl,BB i p mem,nx,gd⟩:=by
 intro F m5 g W a h;have hi:i<1000000*nx:=by simpa[sO]using hi
 let M:Gh:=⟨g.H,λl=>if l=i then g.γ p else g.γ l⟩;have K:fL (λl=>l≠i) g M:=⟨cE.refl _,λl d=>y d⟩;have r:M.γ i=g.γ p:=q J;have L:∀l,l≠i->M.γ l=g.γ l:=λl d=>y d
 have hS:∀t z,St.kn ⟨EA i p sl,BB i p mem,nx,gd⟩ (.s t)=ad (.v z)->∃v,U t sl=ad v/\z=Ey i p v:=by intro t z e;simp only[St.kn,Zq,Option.map_map,bS]at e;let ⟨v,hv,he⟩:=e;cases he;exact⟨v,hv,J⟩
 have V:∀t b,St.kn ⟨EA i p sl,BB i p mem,nx,gd⟩ (.m t)=ad (.b b)->(t=i/\U p mem=ad b)\/(t≠i/\t≠p/\U t mem=ad b):=by intro t b e;simp only[St.kn,bS]at e;let ⟨v,hv,he⟩:=e;cases he;exact RV t hm hv
 have c:∀t u b,U t mem=ad b->ic F.N g W t b->M.γ u=g.γ t->ic F.N M W u b:=by
  intro t u b w A hγ;have B:=(Zs hm w).2;cases b with
  |box E bz cs=>
   let ⟨k,vs,rest,e1,Q,O,Y,e5,e6⟩:=A
   exact⟨k,vs,rest,qe,Q,aY.mono K (λl d=>(B l d).1) O,Y,e5,by rw[hγ];exact e6⟩
  |vec E T ys=>
   rcases A with⟨e1,Q⟩|⟨k,cap,vs,e1,Q⟩
   .exact .inl ⟨qe,Q⟩
   .exact .inr ⟨k,cap,vs,qe,Q⟩
  |dI f first caps=>
   let ⟨us,ws,e1,Q,O⟩:=A
   exact⟨us,ws,qe,du.mono K (λl d=>(B l<|eH _ d).1) Q,du.mono K (λl d=>(B l<|gI _ d).1) O⟩
  |fz E cs=>
   let ⟨k,vs,rest,e1,Q,O,Y,e5⟩:=A
   exact⟨k,vs,rest,qe,Q,aY.mono K (λl d=>(B l d).1) O,Y,e5⟩
  |mp ka va ys=>
   let ⟨k,es,e1,Q,O,Y⟩:=A
   exact⟨k,es,qe,Q,iU.mono K (λl d=>(B l d).1) O,Y⟩
  |it m n seen=>
   let ⟨k,b,e1,e0,Q⟩:=A
   exact⟨k,b,qe,by rw[K.γ m (B m<|by simp[aD.ak]).1];exact e0,Q⟩
 have o:∀t b,U t mem=ad b->St.kn ⟨sl,mem,nx,gd⟩ (.m t)=ad (.b b):=λt b w=>by simp[St.kn,w]
 refine⟨M,h.size,h.defers,?_,?_,?_,?_,?_,h.sub,h.below,h.le,h.fresh,λl d=>⟨(h.fv l d).1,by have:=cP Qq;rw[L l G];exact(h.fv l d).2⟩⟩
 .intro t z e;obtain⟨v,hv,rfl⟩:=hS t z e;have A:=h.dv t v p7;have D:=Zr hs hv;unfold Ey;split
  .rename_i k;have Bp:k≠i:=by simpa[L3]using D
   have Z:a.tmps.getD t undef=g.γ k:=A;split
   .rename_i e';subst e';show _=M.γ i;rw[r];exact Z
   .show _=M.γ k;rw[L k Bp];exact Z
  .rename_i fe;refine a8.mono K (λl d=>?_) A;unfold L3 at D;split at D
   .rename_i k;exact absurd J<|fe k
   .have:=(mn.1 D) l d;simp at this;exact this.1
 .intro t b e;rcases V t b e with⟨rfl,w⟩|⟨R,h2,w⟩
  .exact c p t b w (h.cA p b<|o p b w) r
  .exact c t t b w (h.cA t b<|o t b w)<|L t R
 .intro t u b P k e e' S X;rcases V t b e with⟨rfl,w⟩|⟨R,h2,w⟩<;>rcases V u P e' with⟨rfl,I⟩|⟨Zt,D8,I⟩
  .rfl
  .rw[r]at S;rw[L u Zt]at X;exact absurd (h.inj p u b P k (o _ _ w) (o _ _ I) S X)<|λe=>D8 e.symm
  .rw[r]at X;rw[L t R]at S;exact absurd (h.inj t p b P k (o _ _ w) (o _ _ I) S X) h2
  .rw[L t R]at S;rw[L u Zt]at X;exact h.inj t u b P k (o _ _ w) (o _ _ I) S X
 .intro key x e l d;cases key with
  |s t=>
   cases x with
   |b P=>simp only[St.kn,bS]at e;let ⟨_,_,he⟩:=e;cases he
   |v z=>
    obtain⟨v,hv,rfl⟩:=hS t z e
    have HP:=h.ak (.s t) (.v v) p7
    have d:l∈(Ey i p v).ak:=d
    unfold Ey at d
    split at d
    .split at d
     .simp only[AV.ak,C.ak,iw]at d;subst d;exact hi
     .exact HP l d
    .exact HP l d
  |m t=>
   cases x with
   |v z=>simp only[St.kn,bS]at e;let ⟨_,_,he⟩:=e;cases he
   |b P=>
    rcases V t P e with⟨rfl,w⟩|⟨R,h2,w⟩
    .exact h.ak (.m p) (.b P) (o p P w) l d
    .exact h.ak (.m t) (.b P) (o t P w) l d
 .intro t x e;cases x with
  |v z=>simp only[St.kn,bS]at e;let ⟨_,_,he⟩:=e;cases he
  |b P=>
   rcases V t P e with⟨rfl,w⟩|⟨R,h2,w⟩
   .exact hi
   .exact h.dn t _<|o t P w
def Wk.trans{a b d}(h:Wk a b)(k:Wk b d):Wk a d:=λF f g W ac i=>by let ⟨l,m⟩:=h F f g W ac i;exact k F f l W ac m
def EC{a b:Type}(f:a->b->Bool):E a->E b->Bool
 |[],[]=>ae
 |x::xs,d::g=>f x d&&EC f xs g
 |_,_=>ah
def kQ.uq:ET->ET->Bool
 | .int k,.int a=>decide<|k=a
 | .bool,.bool=>ae
 | .z,.z=>ae
 | .q,.q=>ae
 | .sl T,.sl b=>kQ.uq T b
 | .pr d B,.pr f g=>kQ.uq d f&&kQ.uq B g
 |_,_=>ah
def kQ:(T d:ET)->T.den->d.den->Bool
 | .int k,.int g,(n:Int),(m:Int)=>decide (k=g)&&decide (n=m)
 | .bool,.bool,(a:Bool),(b:Bool)=>a==b
 | .z,.z,(n:Int),(m:Int)=>decide<|n=m
 | .q,.q,(a:Rat),(b:Rat)=>decide (a.num=b.num)&&decide (a.den=b.den)
 | .sl T,.sl d,(xs:E T.den),(h:E d.den)=>kQ.uq T d&&EC (λx f=>kQ T d x f) xs h
 | .pr i B,.pr l o,x,f=>kQ i l x.1 f.1&&kQ B o x.2 f.2
 |_,_,_,_=>ah
def akj:∀{T a:ET},kQ.uq T a=ae->T=a:=by
 intro T;induction T with
 |int k=>intro a h;cases a<;>simp[kQ.uq]at h;rw[h]
 |bool=>intro a h;cases a<;>simp[kQ.uq]at h;rfl
 |z=>intro a h;cases a<;>simp[kQ.uq]at h;rfl
 |q=>intro a h;cases a<;>simp[kQ.uq]at h;rfl
 |sl T f=>intro a h;cases a<;>simp[kQ.uq]at h;rw[f h]
 |pr A B b d=>intro a h;cases a<;>simp[kQ.uq]at h;rw[b h.1,d h.2]
def Zu{a:Type}{f:a->a->Bool}(g:∀x b,f x b=ae->x=b):∀{xs d:E a},EC f xs d=ae->xs=d
 |[],[],_=>rfl
 |x::xs,b::d,h=>by simp only[EC,cD]at h;rw[g _ _ h.1,Zu g h.2]
 |[],_::_,h=>by simp[EC]at h
 |_::_,[],h=>by simp[EC]at h
def akk:∀(T:ET)(x a:T.den),kQ T T x a=ae->x=a:=by
 intro T;induction T with
 |int k=>intro x a h;simp only[kQ,cD,decide_eq_true_eq]at h;exact h.2
 |bool=>intro x a h;exact eq_of_beq h
 |z=>intro x a h;exact aW h
 |q=>intro x a h;simp only[kQ,cD,decide_eq_true_eq]at h;exact Rat.ext h.1 h.2
 |sl T f=>intro x a h;simp only[kQ,cD]at h;exact Zu f h.2
 |pr A B b d=>intro x a h;simp only[kQ,cD]at h;exact Prod.ext (b _ _ h.1)<|d _ _ h.2
def ED{a:Type}(f:a->E C->Bool)(n:V):E C->E a->Bool
 |_,[]=>ae
 |cs,x::xs=>f x (M n cs)&&ED f n (ay n cs) xs
def akl(a:V):au V->Bool
 |none=>ae
 |some b=>dU a b
def HQ(a:V->au aD)(T:ET)(f:T.den->E C->Bool)(b:C)(xs:E T.den):Bool:=
 match b with
 | .S d g=>kQ (.sl d) (.sl T) g xs
 | .V (.slice none 0 0)=>xs.isEmpty
 | .L id off len cap=>il len (Z xs)&&dU (len*T.n) 140737488355328&&akl len cap&&(match a id with
  |some (.box _ _ cs)=>ED f T.n (ay off cs) xs
  |some (.fz _ cs)=>ED f T.n (ay off cs) xs
  |_=>ah)
 |_=>ah
def HR(b:V->au aD)(a:Int):E C->Bool
 |[.B s,d]=>(s==cj a)&&HQ b (.int .u32) (λn f=>match f with|[.I .u32 m]=>decide (m=n)|_=>ah) d (er a)
 |_=>ah
def vV(d:V->au aD):(T:ET)->T.den->E C->Bool
 | .int k,n,a=>(match a with|[.I h m]=>decide (h=k)&&decide (m=n)|_=>ah)
 | .bool,b,a=>(match a with|[.B i]=>i==b|_=>ah)
 | .z,l,a=>HR d l a
 | .q,g,a=>HR d g.num (M 2 a)&&HR d (g.den:Int) (ay 2 a)
 | .sl T,xs,a=>(match a with|[o]=>HQ d T (λx a=>vV d T x a) o xs|_=>ah)
 | .pr f B,x,a=>vV d f x.1 (M f.n a)&&vV d B x.2 (ay f.n a)
def L5(a:V->au aD):C->C->Bool
 | .B b,.B d=>b==d
 | .I k n,.I f g=>decide (k=f)&&decide (n=g)
 |h,.S T xs=>HQ a T (vV a T) h xs
 |_,.any=>ae
 |_,_=>ah
def vW(a:V->au aD):E C->E C->Bool
 |[],[]=>ae
 |b::cs,d::ds=>L5 a b d&&vW a cs ds
 |_,_=>ah
def EE(a:V->au aD):E (Bool×E C)->E (Bool×E C)->Bool
 |[],[]=>ae
 | (b,cs)::d,(f,ds)::g=>(b==f)&&vW a cs ds&&EE a d g
 |_,_=>ah
def BC(b:V->au aD):AV->AV->Bool
 | .c x,.c d=>L5 b x d
 | .a cs,.a ds=>vW b cs ds
 | .t f,.t g=>EE b f g
 |_,_=>ah
section
variable{F:dm}{g:Gh}{W:World}{lk:V->au aD}
structure vX(f:FH)(g:Gh)(W:World)(lk:V->au aD):Prop where
 le:cE g.H f
 cy:∀a E d,((∃sz,lk a=ad (.box E sz d))\/lk a=ad (.fz E d))->∃b,∃vs rest:List aR,El.cy (g.γ a)=ad b/\(∀o,f b o=W.cell? ⟨b,o,none⟩)/\W.heap[b]? =ad (.cells (vs++rest).toArray E (0,0))/\aY g d vs
variable{HF:FH}
def Zv{b:Type}{R:b->E aR->Prop}{f:b->E C->Bool}{n:V}(d:∀x a vs,f x a=ae->aY g a vs->R x vs)(l:∀x vs,R x vs->Z vs=n):∀(xs:E b){a:E C}{vs:E aR},ED f n a xs=ae->aY g a vs->∀i(h:i<Z xs),R xs[i] ((ay (i*n) vs).take n)
 |[],_,_,_,_,i,h=>by simp at h
 |x::xs,a,vs,hm,k,i,h=>by
  simp only[ED,cD]at hm;cases i with
  |zero=>simp only[qf,qh,vw];exact d _ _ _ hm.1<|k.take n
  |succ i=>
   have:=Zv d l xs hm.2 (k.drop n) i eh
   rw[pY,(GG:n+i*n=(i+1)*n)]at this
   simpa using this
def RX(B:vX HF g W lk){T}{f:T.den->E C->Bool}(hf:∀x d vs,f x d=ae->aY g d vs->c6 HF T x vs){k}{xs}{v}(l:HQ lk T f k xs=ae)(p:cN g k v):lK (c6 HF T) T.n HF xs v:=by
 unfold HQ at l;split at l
 .rename_i H y;have z:H=T:=by simp only[kQ,cD]at l;exact akj l.1
  subst z;have:=akk (.sl H) y xs l;subst this;exact lK.mono p B.le<|λx d=>c6.mono B.le H x d
 .have:xs=[]:=List.isEmpty_iff.1 l;subst this;simp only[cN]at p;exact⟨none,0,p,aT _,ax,.inl J⟩
 .rename_i K a A L;simp only[cD]at l;let ⟨⟨⟨P,Q⟩,D⟩,m⟩:=l;have P:=kO P;have Q:=cP Q;subst P;have m:∃o d,((∃sz,lk K=ad (.box o sz d))\/lk K=ad (.fz o d))/\ED f T.n (ay a d) xs=ae:=by
   split at m
   .rename_i o sz d s;exact⟨o,d,.inl ⟨sz,s⟩,m⟩
   .rename_i o d s;exact⟨o,d,.inr s,m⟩
   .cases m
  .let ⟨o,d,s,m⟩:=m;let ⟨b,vs,rest,u,I,hh,X⟩:=B.cy K o d s;have t:=Zv (R:=c6 HF T) hf (λx vs h=>c6.length T x vs h) xs m<|X.drop a;have e:∃k,v= .slice (ad ⟨b,a,none⟩) (Z xs) k/\Z xs<=k:=by
    cases L with
    |none=>
     let ⟨M,N,k,w,q,O⟩:=p
     rw[w]at u
     simp only[El.cy,aq]at u
     subst u
     exact⟨k,by rw[M];exact q,O⟩
    |some k=>
     let ⟨N,w,q⟩:=p
     rw[u]at w
     cases w
     exact⟨k,q,cP D⟩
   let ⟨k,e,hc⟩:=e;refine⟨ad ⟨b,a,none⟩,k,e,hc,Q,?_⟩;by_cases hx:xs=[]
   .exact .inl hx
   .refine .inr ⟨b,a,J,λi r=>⟨_,c6.length T _ _<|t i r,t i r,λj S=>?_⟩⟩;rw[I];simp only[gL,DS]at S;simp only[rf,tH];rw[(G:a+i*T.n+j=a+(i*T.n+j))];simp only[GO,hh,tE];rw[DA G];exact cO G
 .cases l
def RY(n:vX HF g W lk){l}{h}{vs}(a:HR lk l h=ae)(o:aY g h vs):q6 HF l vs:=by
 unfold HR at a;split at a
 .rename_i b c;simp only[cD]at a;obtain⟨v,r,rfl,d,p,s,rfl,f,m⟩:=o;simp only[aY]at m;simp only[cN]at d;subst m d;rw[eq_of_beq a.1];refine⟨p,J,RX (T:= .int .u32) n ?_ a.2 f⟩;intro x h vs i k;split at i
  .obtain⟨u,r,rfl,d,f⟩:=k;simp only[aY]at f;simp only[cN]at d;subst f d;rw[aW i];rfl
  .cases i
 .cases a
def akm(i:vX HF g W lk):∀(T:ET)(x:T.den)(d:E C)(vs:E aR),vV lk T x d=ae->aY g d vs->c6 HF T x vs:=by
 intro T;induction T with
 |int k=>
  intro x d vs a b
  simp only[vV]at a
  split at a
  .obtain⟨u,r,rfl,h,f⟩:=b;simp only[aY]at f;simp only[cN]at h;simp only[cD,decide_eq_true_eq]at a;subst f h;rw[a.1,a.2];rfl
  .cases a
 |bool=>
  intro x d vs a b
  simp only[vV]at a
  split at a
  .obtain⟨u,r,rfl,h,f⟩:=b;simp only[aY]at f;simp only[cN]at h;subst f h;rw[eq_of_beq a];rfl
  .cases a
 |z=>intro x d vs a b;exact RY i a b
 |q=>
  intro x d vs a b
  simp only[vV,cD]at a
  exact⟨M 2 vs,ay 2 vs,(sI 2 vs).symm,RY i a.1<|b.take 2,RY i a.2<|b.drop 2⟩
 |sl T o=>
  intro x d vs a b
  simp only[vV]at a
  split at a
  .obtain⟨u,r,rfl,h,f⟩:=b;simp only[aY]at f;subst f;exact⟨u,J,RX i o a h⟩
  .cases a
 |pr A B l m=>
  intro x d vs a b
  simp only[vV,cD]at a
  exact⟨M A.n vs,ay A.n vs,(sI _ vs).symm,l _ _ _ a.1<|b.take _,m _ _ _ a.2<|b.drop _⟩
def RZ(f:vX HF g W lk){h d}{v}(a:L5 lk h d=ae)(b:cN g h v):cN ⟨HF,ja⟩ d v:=by
 unfold L5 at a;split at a
 .rw[<-eq_of_beq a];exact b
 .simp only[cD,decide_eq_true_eq]at a;rw[<-a.1,<-a.2];exact b
 .exact RX f (akm f _) a b
 .trivial
 .cases a
def R0(f:vX HF g W lk):∀{a b:E C}{vs:E aR},vW lk a b=ae->aY g a vs->aY ⟨HF,ja⟩ b vs
 |[],[],_,_,h=>h
 |m::a,d::b,_,hm,h=>by simp only[vW,cD]at hm;obtain⟨v,i,rfl,k,l⟩:=h;exact⟨v,i,J,RZ f hm.1 k,R0 f hm.2 l⟩
 |[],_::_,_,hm,_=>by simp[vW]at hm
 |_::_,[],_,hm,_=>by simp[vW]at hm
def Zw(f:vX HF g W lk):∀{i k:E (Bool×E C)}{vs:E aR},EE lk i k=ae->du g i vs->du ⟨HF,ja⟩ k vs
 |[],[],_,_,h=>h
 | (b,cs)::i,(n,ds)::k,_,hm,h=>by
  simp only[EE,cD]at hm;let ⟨⟨l,hc⟩,ht⟩:=hm;have l:=eq_of_beq l;subst l;obtain⟨v,r,rfl,a,m⟩:=h;refine⟨v,r,J,?_,Zw f ht m⟩;cases b with
  |true=>let ⟨us,e,a⟩:=a;exact⟨us,e,R0 f hc a⟩
  |false=>
   match cs,ds,hc,a with
   |[c],[d],hc,a=>simp only[vW,cD]at hc;exact RZ f hc.1 a
   |[c],[],hc,_=>simp[vW]at hc
   |[c],_::_::_,hc,_=>simp[vW]at hc
   |[],_,_,a=>exact a.elim
   |_::_::_,_,_,a=>exact a.elim
 |[],_::_,_,hm,_=>by simp[EE]at hm
 |_::_,[],_,hm,_=>by simp[EE]at hm
def Zx(b:vX HF g W lk){x d}{v}(a:BC lk x d=ae)(f:a8 g x v):a8 ⟨HF,ja⟩ d v:=by
 cases x<;>cases d<;>simp only[BC]at a<;>try cases a
 .exact RZ b a f
 .let ⟨vs,e,h⟩:=f;exact⟨vs,e,R0 b a h⟩
 .let ⟨vs,e,h⟩:=f;exact⟨vs,e,Zw b a h⟩
end
def rE(a:V->au aD):E AV->E AV->Bool
 |[],[]=>ae
 |x::xs,b::d=>BC a x b&&rE a xs d
 |_,_=>ah
def Zy{b:V->au aD}{d:FH}{g:Gh}{W:World}(f:vX d g W b):∀{xs a:E AV}{vs:E aR},rE b xs a=ae->fG g xs vs->fG ⟨d,ja⟩ a vs
 |[],[],_,_,h=>h
 |x::xs,m::a,_,hm,h=>by simp only[rE,cD]at hm;obtain⟨v,i,rfl,k,l⟩:=h;exact⟨v,i,J,Zx f hm.1 k,Zy f hm.2 l⟩
 |[],_::_,_,hm,_=>by simp[rE]at hm
 |_::_,[],_,hm,_=>by simp[rE]at hm
def Zz{b:V->au aD}:∀{xs a:E AV},rE b xs a=ae->Z a=Z xs
 |[],[],_=>rfl
 |x::xs,d::a,hm=>by simp only[rE,cD]at hm;simp[Zz hm.2]
 |[],_::_,hm=>by simp[rE]at hm
 |_::_,[],hm=>by simp[rE]at hm
section
variable{P:bI}
def ZA{g}:∀(vs:E AV)(a:E aR)(i:V)(all:E aR),Z a=Z vs->(∀d,d<Z a->all[i+d]? =a[d]?)->(∀t v,U t (dy i vs)=ad v->a8 g v (all.toArray.getD t undef))->fG g vs a:=by
 intro vs;induction vs with
 |nil=>intro a i all hl _ _;exact gK tG
 |cons x vs s=>
  intro a i all hl b n
  cases a with
  |nil=>simp at hl
  |cons u a=>
   refine⟨u,a,J,?_,s a (i+1) all tG ?_ ?_⟩
   .have w:=n i x (by simp[dy,U]);have o:=b 0 ax;simp only[jv,mX]at o;simpa[o]using w
   .intro d hj;have:=b (d+1) pZ;rw[(G:i+1+d=i+(d+1))];simpa using this
   .intro t v p;refine n t v ?_;have k:∀(l:E AV)(f:V),i<f->∀v,U i (dy f l)=ad v->False:=by
     intro l;induction l with
     |nil=>intro f _ v h;simp[dy,U]at h
     |cons y l m=>
      intro f B v h
      simp only[dy,U]at h
      split at h
      .omega
      .exact m (f+1) G v h
    simp only[dy,U];split
    .rename_i e;subst e;exact(k vs (i+1) G v p).elim
    .exact p
def EF:aD->aD
 | .box a _ cs=> .fz a cs
 |b=>b
def ZB b:(EF b).ak=b.ak:=by cases b<;>rfl
open Classical in
def akn{f}{vs L}{a7}(h:ao P f L a7)(hm:cM L=[]){fm Q}(uu:E V)(hD:∀d,U d Q=if d∈uu then(U d fm).map EF else U d fm){lk:V->au aD}(xB:∀d b,lk d=ad b->d∈uu/\U d fm=ad b)(ZC:rE lk vs L=ae) k:CX P f vs fm k a7 Q k:=by
 refine⟨h.call,aT _,?_⟩;intro F g W us hn m6 p;have BD:fG g vs us:=ZA vs us 0 us m6 (λj hj=>ax) (λt v ht=>p.dv t v<|by simp[St.kn,ht]);have sy:∀d,St.kn ⟨dy 0 vs,fm,0,[]⟩ (.m d)=(U d fm).map .b:=λ_=>rfl
 let B:V->Prop:=λb=>∃d X sz c,d∈uu/\U d fm=ad (.box X sz c)/\cy (g.γ d)=ad b
 let q:FH:=λb o=>if B b then W.cell? ⟨b,o,none⟩else g.H b o
 have ZD:∀b,B b->(∀o,g.H b o=none)/\F.N b:=by rintro b ⟨d,X,sz,c,_,hl,K⟩;let ⟨b',ws,rest,I,e2,e3,e4,e5,_⟩:=p.cA d (.box X sz c) zb;rw[K]at I;cases I;exact⟨e5,e4⟩
 have Y:cE g.H q:=by
  intro b o v hv;by_cases e:B b
  .rw[(ZD b e).1]at hv;cases hv
  .simp only[q,e,bQ];exact hv
 have ok:vX q g W lk:=by
  refine⟨Y,λd X c hl=>?_⟩;rcases hl with⟨sz,hl⟩|hl
  .let ⟨l,hl⟩:=xB d _ hl;let ⟨b,ws,rest,I,e2,e3,e4,e5,_⟩:=p.cA d (.box X sz c) zb;have hB:B b:=⟨d,X,sz,c,l,hl,I⟩;exact⟨b,ws,rest,I,λo=>by simp only[q,hB,cd],e2,e3⟩
  .let ⟨l,hl⟩:=xB d _ hl;let ⟨b,ws,rest,I,e2,e3,e4,e5⟩:=p.cA d (.fz X c) zb;have M:¬B b:=by rintro⟨A,E',sz,cs',ZE,C,O⟩;have:=p.inj d A (.fz X c) (.box E' sz cs') b zb (by rw[sy,C];rfl) I O;subst this;rw[hl]at C;cases C
   exact⟨b,ws,rest,I,λo=>by simp only[q,M,bQ,e5];simp[GO,e2],e2,e3⟩
 have R:=Zy ok ZC BD;have tX:Sub q W:=by
  intro b o v hv;by_cases e:B b
  .simp only[q,e,cd]at hv;exact hv
  .simp only[q,e,bQ]at hv;exact p.sub b o v hv
 have hlen:=Zz ZC;have h2:aJ F (·<k) (St.kn ⟨dy 0 L,Q,0,[]⟩) ⟨q,g.γ⟩ W (m7 us):=by
  have hM:∀d b,St.kn ⟨dy 0 L,Q,0,[]⟩ (.m d)=ad (.b b)->∃i,U d fm=ad i/\((d∉uu/\b=i)\/(d∈uu/\b=EF i)):=by
   intro d b K;have e:St.kn ⟨dy 0 L,Q,0,[]⟩ (.m d)=(U d Q).map .b:=rfl;rw[e,hD]at K;split at K
   .rename_i hd;cases hl:U d fm with
    |none=>rw[hl]at K;cases K
    |some i=>rw[hl]at K;cases K;exact⟨i,J,.inr ⟨hd,J⟩⟩
   .rename_i jR;simp only[bS]at K;let ⟨x,G,he⟩:=K;cases he;exact⟨_,G,.inl ⟨jR,J⟩⟩
  have z:∀d b,St.kn ⟨dy 0 L,Q,0,[]⟩ (.m d)=ad (.b b)->∃i,U d fm=ad i/\b.ak=i.ak:=by
   intro d b K;let ⟨i,hl,h⟩:=hM d b K;refine⟨i,hl,?_⟩;rcases h with⟨_,rfl⟩|⟨_,rfl⟩
   .rfl
   .exact ZB i
  refine⟨p.size,p.defers,?_,?_,?_,?_,?_,tX,p.below,p.le.trans Y,?_,p.fv⟩
  .intro t v ht;simp only[St.kn,bS]at ht;let ⟨x,G,he⟩:=ht;cases he;let ⟨_,u,hu,hr,z⟩:=lv L us 0 R t v G;have D7:us[t]? =ad u:=vJ;simp only[m7,ls,tE,D7,rv];refine hr.iy ?_ (cE.refl _) g.γ;refine QZ.2<|λd l=>?_;have:=z d l;rw[hm]at this;cases this
  .intro d b K;let ⟨i,hl,akp⟩:=hM d b K;have S:St.kn ⟨dy 0 vs,fm,0,[]⟩ (.m d)=ad (.b i):=zb;have Ho:=p.cA d i S;have w:(∀X sz c,i= .box X sz c->d∉uu)->ic F.N ⟨q,g.γ⟩ W d i:=by
    intro Z;refine Ho.uf (known:=(·<k)) ⟨Y,λ_ _=>rfl⟩ (p.dn d _ S) (λj hj=>p.ak _ _ S j hj)<|λkk kL=>⟨J,λo=>?_⟩;have M:¬B kk:=by rintro⟨A,X,sz,c,ZE,C,O⟩;have:=p.inj d A i (.box X sz c) kk S (by rw[sy,C];rfl) kL O;subst this;rw[hl]at C;cases C;exact Z X sz c J ZE
    simp only[q,M,bQ]
   rcases akp with⟨jR,rfl⟩|⟨hd,rfl⟩
   .exact w<|λ_ _ _ _=>jR
   .cases i with
    |box X sz c=>
     let ⟨b,ws,rest,I,e2,e3,e4,e5,_⟩:=Ho
     have hB:B b:=⟨d,X,sz,c,hd,hl,I⟩
     exact⟨b,ws,rest,I,e2,aY.mono (known:=(·<k)) (g:=g) (g':=⟨q,g.γ⟩) ⟨Y,λ_ _=>rfl⟩ (λj hj=>p.ak _ _ S j hj) e3,e4,λo=>by simp only[q,hB,cd];simp[GO,e2]⟩
    |vec X T xs=>exact w<|λ_ _ _ e=>vY
    |dI f a b=>exact w<|λ_ _ _ e=>vY
    |fz X c=>exact w<|λ_ _ _ e=>vY
    |mp ka va xs=>exact w<|λ_ _ _ e=>vY
    |it m n seen=>exact w<|λ_ _ _ e=>vY
  .intro d A b b' kk K O h1 h2;let ⟨i,hl,_⟩:=hM d b K;let ⟨b1,C,_⟩:=hM A b' O;exact p.inj d A i b1 kk zb (by rw[sy,C];rfl) h1 h2
  .intro key x G d l;cases key with
   |m j=>
    cases x with
    |b b'=>
     let ⟨i,hl,oR⟩:=z j b' G
     have l:d∈b'.ak:=l
     rw[oR]at l
     exact p.ak (.m j) (.b i) zb d l
    |v v'=>simp only[St.kn,bS]at G;let ⟨_,_,he⟩:=G;cases he
   |s t=>
    simp only[St.kn,bS]at G
    let ⟨y,hy,he⟩:=G
    subst he
    let ⟨_,_,_,_,h6⟩:=lv L us 0 R t y hy
    have:=h6 d l
    rw[hm]at this
    cases this
  .intro d x G;cases x with
   |b b'=>let ⟨i,hl,_⟩:=z d b' G;exact p.dn d (.b i) zb
   |v v'=>simp only[St.kn,bS]at G;let ⟨_,_,he⟩:=G;cases he
  .intro b o K Z;have M:¬B b:=by
    intro e;rcases(ZD b e).2 with h1|h1
    .omega
    .exact Z h1
   simp only[q,M,bQ];exact p.fresh b o K Z
 exact(ajK h hm Q k).spec F ⟨q,g.γ⟩ W us (by rw[hlen];exact hn) (by rw[hlen];exact m6) h2
end
inductive Rc where
 |no
 |dk (t:Tr) (ms:Ms) (k:V) (a:E V)
 |gN (b:V) (t:Tr) (ms:Ms) (k:V) (a:E V)
 |ret (t:Tr) (ms:Ms) (k:V) (a:E V)
def eT(n:V):V:=if n<=16 then 2 else if n<=64 then 3 else if n<=256 then 4 else if n<=1024 then 5 else 6
noncomputable def m8(dep:V)(vs:E AV):V->Tr->Tr:=kM (motive:=λ_=>V->Tr->Tr) (λ_ t=>t)
 (λv _ a i t=>a (i+1)<|jH (cV dep i) v t) vs
noncomputable def HS(b:TT)(dep n:V)(t:Tr)(d:Ms):yO->au AV
 | .tmp a=>(match dt a n with
  |true=>jx (cV dep a) t
  |false=>none)
 | .cell a ty=>(match dt a n with
  |true=>(match jx (cV dep a) t with
   |some (.c<|.P id off)=>(match bw id d,ou b ty with
    |some (.box _ _ cs),ad (sz,f)=>nD cs off sz f
    |_,_=>none)
   |_=>none)
  |false=>none)
noncomputable def L6(a:TT)(dep n:V)(t:Tr)(b:Ms):E yO->au (E<|Bool×E C)
 |[]=>ad []
 |x::xs=>(match HS a dep n t b x with
  |some v=>(match rq v,L6 a dep n t b xs with
   |some s,ad d=>ad<|s::d
   |_,_=>none)
  |none=>none)
noncomputable def EG(a:TT)(dep n:V)(t:Tr)(b:Ms):E yO->au AV
 |[x]=>HS a dep n t b x
 |xs=>(match L6 a dep n t b xs with
  |some d=>ad<|.t d
  |none=>none)
noncomputable def xC:V->Mem->E V->Mem->Mem
 |0,_,_,acc=>acc
 |_+1,_,[],acc=>acc
 |f+1,own,id::todo,acc=>match mA id acc with
  |some _=>xC f own todo acc
  |none=>(match mA id own with
   |some b=>xC f own (b.ak++todo)<|(id,b)::acc
   |none=>xC f own todo acc)
noncomputable def BE(k:V)(a:Ms):E V->Bool
 |[]=>ae
 |id::b=>(match dU k id with
  |true=>BE k a b
  |false=>(match bw id a with
   |some _=>BE k a b
   |none=>ah))
noncomputable def L7(k:V)(a:Ms):Mem->Bool
 |[]=>ae
 | (id,b)::d=>(match dU k id with
  |true=>(match BE k a b.ak with
   |true=>L7 k a d
   |false=>ah)
  |false=>ah)
noncomputable def EH(k:V)(d a:Ms):E V->Bool
 |[]=>ae
 |id::f=>(match bw id a with
  |some b=>(match BE k d b.ak with
   |true=>EH k d a f
   |false=>ah)
  |none=>EH k d a f)
noncomputable def R1(k:V)(l:Mem):Bool:=kM (motive:=λ_=>Bool) ae (λh _ a=>y7 (motive:=λ_=>Bool) ah a<|dU k h.1) l
def zd(a:Mem):Ms->Ms
 |m::b=>(a++m)::b
 |[]=>[a]
noncomputable def HT(a:Ms):E V->E V
 |[]=>[]
 |id::d=>(match bw id a with
  |some b=>b.ak++HT a d
  |none=>HT a d)
noncomputable def leave(h:TT)(f:Func)(dep:V)(b:Ms)(k:V)(t:Tr)(a:Ms)(i:V)(d:E V):Cr:=match EG h dep f.ntmps t a f.results.toList with
 |some r=>(match a with
  |own::rest=>(match xC 1000 own (r.ak++HT rest d) []with
   |g=>(match BE k b r.ak&&L7 k b g&&EH k b rest d&&R1 k own with
    |true=> .ok r (zd g rest) i d
    |false=> .no))
  |[]=> .no)
 |none=> .no
noncomputable def HU(a:Ms):V->E V->E V->E V
 |0,_,acc=>acc
 |_+1,[],acc=>acc
 |f+1,id::todo,acc=>match acc.any (il id)with
  |true=>HU a f todo acc
  |false=>(match bw id a with
   |some b=>HU a f (b.ak++todo)<|id::acc
   |none=>HU a f todo acc)
noncomputable def ZF(b:E V)(d:Ms)(a:V):au aD:=match b.any (il a)with
 |true=>bw a d
 |false=>none
noncomputable def vZ:E V->Ms->Ms
 |[],ms=>ms
 |id::a,ms=>(match bw id ms with
  |some (.box b _ cs)=>vZ a<|qq id (.fz b cs) ms
  |_=>vZ a ms)
abbrev xD:=V->V->V->Code->Tr->Ms->V->E V->Rc
noncomputable def sS(P:bI)(i:TT)(g:iK->E AV->Ms->au (E AV×AV))(body:xD):mB:=λf vs a k=>
 match g f vs a with
 |some (d,r)=>(match HU a 200 (cM vs) []with
  |D=>(match rE (ZF D a) vs d&&(cM d).isEmpty&&EH k a (vZ D a) D with
   |true=> .ok r (vZ D a) k D
   |false=> .no))
 |none=>(match P.funcs[f]? with
  |some fn=>(match fn.body with
   |some c=>(match fn.name != "runtime.NumGoroutine" &&dU (Z vs) fn.ntmps&&dU fn.ntmps 4096 with
    |true=>(match body (eT fn.ntmps) fn.ntmps k c (m8 (eT fn.ntmps) vs 0 .e) ([]::a) k []with
     | .dk t b h wl=>leave i fn (eT fn.ntmps) a k t b h wl
     | .ret t b h wl=>leave i fn (eT fn.ntmps) a k t b h wl
     |_=> .no)
    |false=> .no)
   |none=> .no)
  |none=> .no)
noncomputable def akq(d:xD)(dep n f:V)(x g:Code)(t:Tr)(h:Ms)(k:V)(i:E V):Rc:=match d dep n f x t h k i with
 | .dk t1 a l b=>d dep n f g t1 a l b
 |r=>r
noncomputable def akr(a:xD)(dep n d:V)(h:eQ)(x i:Code)(t:Tr)(f:Ms)(k:V)(g:E V):Rc:=match iL dep n h with
 |some p=>(match jT t p with
  |some (.c<|.B b)=>(match b with
   |true=>a dep n d x t f k g
   |false=>a dep n d i t f k g)
  |_=> .no)
 |none=> .no
noncomputable def aks(g:xD)(dep n h:V)(i:V)(x:Code)(t:Tr)(l:Ms)(k:V)(m:E V):Rc:=match g dep n h x t l k m with
 | .gN a t1 b f d=>(match il a i with
  |true=> .dk t1 b f d
  |false=> .gN a t1 b f d)
 |r=>r
noncomputable def akt(d:xD)(dep n f:V)(x:Code)(t:Tr)(g:Ms)(k:V)(h:E V):Rc:=match d dep n f x t g k h with
 | .dk t1 a i b=>d dep n f (.loop x) t1 a i b
 |r=>r
def rT:Rs->Rc
 | .ok t1 a d b _=> .dk t1 a d b
 | .no=> .no
def rD(ps:E (V×V)):Rd->Rc
 | .ok t1 a d b fs=>(match Et fs.reverse ps with
  |true=> .dk t1 a d b
  |false=> .no)
 | .no=> .no
noncomputable def aku(a:mB)(f:TT)(dep n g:V)(d:E aX)(b:Bool)(t:Tr)(h:Ms)(k:V)(i:E V):Rc:=match L2 dep n d b with
 |some (gs,none)=>rT<|vT a f n g gs t h k i
 |some (gs,ad ps)=>rD ps<|xy a f n g gs t h k i []
 |none=> .no
noncomputable def akv(P:bI)(g:TT)(d:iK->E AV->Ms->au (E AV×AV))(a:xD)(dep n b:V):Code->Tr->Ms->V->E V->Rc
 | .skip=> .dk
 | .exit id=> .gN id
 | .ret=> .ret
 | .seq x f=>akq a dep n b x f
 | .cond h x f=>akr a dep n b h x f
 | .block id x=>aks a dep n b id x
 | .loop x=>akt a dep n b x
 | .region _ ops draw=>aku (sS P g d a) g dep n b ops.toList draw
 |_=>λ_ _ _ _=> .no
noncomputable def iM(P:bI)(d:TT)(b:iK->E AV->Ms->au (E AV×AV))(a:V):xD:=LX (motive:=λ_=>xD)
 (λ_ _ _ _ _ _ _ _=> .no) (λ_ f=>akv P d b f) a
def rF:Ft->V->Prop
 | .n,_=>False
 | .m rd _,id=>id∈rd
 | .c k _ _,id=>id<k
def m9:Ft->V->Prop
 | .n,_=>False
 | .m _ wr,id=>id∈wr
 | .c k a wl,id=>(id∈wl/\id<k)\/(k<=id/\id<a)
def ze(b d:Ks)(f:Ft):Prop:=(∀a∈b.1,match a with| .s t=>Key.s t∈d.1| .m id=>rF f id)/\∀a∈b.2,match a with| .s t=>Key.s t∈d.2| .m id=>m9 f id
def ff(d:Ms)(k:V):Prop:=∀a b,bw a d=ad b->a<k/\∀j∈b.ak,j<k
def dO(dep n:V)(t:Tr)(k:V):Prop:=∀j v,j<n->jx (cV dep j) t=ad v->∀a∈v.ak,a<k
def lT(d a:Ms):Prop:=∀i j b,1<=i->bw j (ay i a)=ad b->∃f,bw j (ay i d)=ad f
def lT.refl ms:lT ms ms:=λ_ _ b _ h=>⟨b,h⟩
def lT.trans{a b d}(h:lT a b)(g:lT b d):lT a d:=λi j x f k=>by let ⟨y,l⟩:=g i j x f k;exact h i j y f l
def R2 id b a:lT a (qq id b a):=by
 intro i j x _ hx;have d:∀(a:Ms)(i:V)(x:aD),bw j (ay i<|qq id b a)=ad x->∃y,bw j (ay i a)=ad y:=by
  intro a;induction a with
  |nil=>intro i x hx;exact⟨x,hx⟩
  |cons m r f=>
   intro i x hx
   have g:qq id b (m::r)=match mA id m with|some _=>HG id b m::r|none=>m::qq id b r:=rfl
   cases i with
   |zero=>
    simp only[qh]at hx⊢
    rw[Ep]at hx
    split at hx
    .rename_i y h;split at hx
     .rename_i e;subst e;exact⟨y,h⟩
     .exact⟨x,hx⟩
    .exact⟨x,hx⟩
   |succ i=>
    rw[g]at hx
    split at hx
    .exact⟨x,D9⟩
    .exact f i x D9
 exact d a i x hx
def akw id a:lT a (uk id a):=by
 intro i j x _ b;have d:∀(a:Ms)(i:V),ay i (uk id a)=uk id (ay i a):=by
  intro a;induction a with
  |nil=>intro i;simp[uk]
  |cons m r f=>intro i;cases i with
   |zero=>rfl
   |succ i=>simpa[uk]using f i
 rw[d,Bu]at b;split at b
 .cases b
 .exact⟨x,b⟩
def akx k b ms:lT ms (y' k b ms):=by
 intro i j x f a;obtain⟨i,rfl⟩:∃d,i=d+1:=⟨i-1,G⟩;cases ms with
 |nil=>exact⟨x,by simpa[y']using a⟩
 |cons m r=>exact⟨x,by simpa[y']using a⟩
structure v3(P:bI)(h:mB):Prop where
 ok:∀{f vs ms k r d g wl},h f vs ms k= .ok r d g wl->ff ms k->(∀a∈cM vs,a<k)->
  CX P f vs ms.flatten k r d.flatten g/\(∀a∈r.ak,k<=a\/∃b,bw a ms=ad b)/\(∀a b,bw a d=ad b->bw a ms=ad b\/∀i∈b.ak,k<=i\/∃b,bw i ms=ad b)/\
   (∀a,a<k->a∉wl->bw a d=bw a ms)/\(∀a b,bw a d=ad b->k<=a\/∃l,bw a ms=ad l)/\ff d g/\(∀a∈r.ak,a<g)/\lT ms d
section
variable{P:bI}{tt:TT}{dep n:V}{t:Tr}{ms:Ms}{k:V}
def ff.le{a}(h:ff ms k)(d:k<=a):ff ms a:=λf b g=>⟨fO (h f b g).1 d,λj i=>fO ((h f b g).2 j i) d⟩
def dO.le{b}(h:dO dep n t k)(d:k<=b):dO dep n t b:=λj v f g i a=>fO (h j v f g i a) d
def dO.set(h:dO dep n t k)(l:n<=4^dep){d}(m:d<n){v}(b:∀f∈v.ak,f<k):dO dep n (jH (cV dep d) v t) k:=by
 intro j u g a;by_cases e:d=j
 .subst e;rw[HE]at a;cases a;exact b
 .rw[Ei _ _ _ _ Ek (λi=>e<|Bs dep G G i)]at a;exact h j u g a
def dO.del(h:dO dep n t k)(g:n<=4^dep){d}(i:d<n):dO dep n (Eh (cV dep d) t) k:=by
 intro j u b a;by_cases e:d=j
 .subst e;rw[RH]at a;cases a
 .rw[RI _ _ _ Ek (λf=>e<|Bs dep G G f)]at a;exact h j u b a
def zf{a b}(h:dt a b=ae):a<b:=by simpa[sO]using h
def kS{m:Mem}{x}{p:Pd}(h:iL dep n x=ad p){v}(a:jT t p=ad v):(bm dep n t m).ev x=ad v:=by
 cases x with
 |tmp j=>
  simp only[iL]at h
  split at h
  .rename_i b;cases h;simp only[St.ev,bm,sM,q<|zf b];exact a
  .cases h
 |const u=>simp only[iL,aq]at h;subst h;exact a
 |func f=>simp only[iL,aq]at h;subst h;exact a
 |global g=>simp[iL]at h
def L8{m:Mem}:∀{xs:E eQ}{ps:E Pd},xx dep n xs=ad ps->∀{vs:E AV},xw t ps=ad vs->jw (bm dep n t m) xs=ad vs
 |[],ps,h,vs,he=>by simp only[xx,aq]at h;subst h;exact he
 |x::xs,ps,h,vs,he=>by
  simp only[xx]at h;split at h
  .rename_i p b d f;cases h;have g:xw t (p::b)=match jT t p with
    |some v=>(match xw t b with|some vs=>ad (v::vs)|none=>none)
    |none=>none:=rfl
   rw[g]at he;split at he
   .rename_i v i;split at he
    .rename_i l a;cases he;simp only[jw,kS d i,L8 f a]
    .cases he
   .cases he
  .cases h
def aky{m:Mem}(i:dO dep n t k){x}{p:Pd}(h:iL dep n x=ad p){v}(b:jT t p=ad v):∀d∈v.ak,d<k:=by
 cases x with
 |tmp j=>
  simp only[iL]at h
  split at h
  .rename_i l;cases h;exact i j v (zf l) b
  .cases h
 |const u=>
  simp only[iL,aq]at h;subst h
  have:Dj u=v:=by simpa[jT]using b
  subst this
  intro d a
  cases u<;>simp[Dj,AV.ak,C.ak]at a
 |func f=>
  simp only[iL,aq]at h;subst h
  have:AV.c (.V<|.func (.func f) #[] #[])=v:=by simpa[jT]using b
  subst this
  intro d a
  simp[AV.ak,C.ak]at a
 |global g=>simp[iL]at h
def L9(f:dO dep n t k):∀{xs:E eQ}{ps:E Pd},xx dep n xs=ad ps->∀{vs:E AV},xw t ps=ad vs->∀b∈cM vs,b<k
 |[],ps,h,vs,he=>by
  simp only[xx,aq]at h;subst h;have:vs=[]:=by simpa[xw]using he.symm
  subst this;simp[cM]
 |x::xs,ps,h,vs,he=>by
  simp only[xx]at h;split at h
  .rename_i p g i l;cases h;have e:xw t (p::g)=match jT t p with
    |some v=>(match xw t g with|some vs=>ad (v::vs)|none=>none)
    |none=>none:=rfl
   rw[e]at he;split at he
   .rename_i v o;split at he
    .rename_i s d;cases he;intro b a;simp only[cM,be]at a;rcases a with a|a
     .exact aky (m:=[]) f i o b a
     .exact L9 f l d b a
    .cases he
   .cases he
  .cases h
def BF(b:cq P tt=ae){o:aX}(f:o.guard=none){d:V}(g:o.dst=ad d)(a:d<n)(l:n<=4^dep){m:Mem}{v}{p}(u:tF tt (bm dep n t m) o.op=ad (v,p))(w:p.h):
  gD P n #[o] 0 (bm dep n t m) (bm dep n (jH (cV dep d) v t) m) k (k+1) (bJ o.op.operands.toList,[.s d]):=
 gD.mu (KL b (ops:= #[o]) (i:=0) J f g a u w k) (ri _ _) (Em dep n t m d v l a) Bq mz
def ZG(b:cq P tt=ae){o:aX}(f:o.guard=none){d:V}(g:o.dst=ad d)(a:d<n)(l:n<=4^dep){m:Mem}{v}{p}(u:D1 tt (bm dep n t m) o.op=ad (v,p))(w:p.h):
  gD P n #[o] 0 (bm dep n t m) (bm dep n (jH (cV dep d) v t) m) k (k+1) (bJ o.op.operands.toList,[.s d]):=
 gD.mu (X9 b (ops:= #[o]) (i:=0) J f g a u w k) (ri _ _) (Em dep n t m d v l a) Bq mz
def akz(b:cq P tt=ae){o:aX}(f:o.guard=none){d:V}(g:o.dst=ad d)(a:d<n)(l:n<=4^dep){m:Mem}{v}{p}(u:vQ tt (bm dep n t m) o.op=ad (v,p))(w:p.h):
  gD P n #[o] 0 (bm dep n t m) (bm dep n (jH (cV dep d) v t) m) k (k+1) (bJ o.op.operands.toList,[.s d]):=
 gD.mu (RE b (ops:= #[o]) (i:=0) J f g a u w k) (ri _ _) (Em dep n t m d v l a) Bq mz
def akA(p:cq P tt=ae){o:aX}(hg:o.guard=none){d:V}(hd:o.dst=ad d)(g:d<n)(hn:n<=4^dep){w}{x}(B:o.op= .load w x){v u}{f}(hx:(bm dep n t ms.flatten).ev x=ad v)(a:RQ tt ms w v=ad (u,f)):
  gD P n #[o] 0 (bm dep n t ms.flatten) (bm dep n (jH (cV dep d) u t) ms.flatten) k (k+1) (bJ [x]++cY f,[.s d]):=by
 have j:GN tt (bm dep n t ms.flatten) w v=ad (u,.t,f):=by
  unfold RQ at a;unfold GN;split at a
  .cases a
  .rename_i sz r C H;have b:sz≠0:=C;simp only[H];split at a
   .rename_i K L;have e:U K (bm dep n t ms.flatten).mem=bw K ms:=jy K ms;simp only[e];split at a
    .rename_i E z q Q;simp only[Q];split at a
     .rename_i y l;cases a;simp only[RP l (λe=>absurd e b)]
     .cases a
    .rename_i E q Q;simp only[Q];split at a
     .rename_i y l;cases a;simp only[RP l (λe=>absurd e b)]
     .cases a
    .cases a
   .rename_i T e L;split at a
    .rename_i y l;cases a;simp only[RP l (λe=>absurd e b)]
    .cases a
   .cases a
  .cases a
 refine gD.mu (Xv p (ops:= #[o]) (i:=0) J hg hd g B hx j A k) ?_ (Em dep n t ms.flatten d u hn g) ?_ mz
 .intro X W;rcases be.1 W with h|h
  .exact dX _ _ X h
  .exact lp _ _ X h
 .intro m c;simp only[dw,fF,be]at c⊢;rcases c with h|h
  .exact .inl<|eI (bm dep n t ms.flatten) [x] m KW
  .exact .inr<|kf _ _ m h
def akB(H:cq P tt=ae){o}(hg:o.guard=none)(hd:o.dst=none){L:TypeId}{x Q}(T:o.op= .store L x Q){v w}{f}{b}{p}(W:(bm dep n t ms.flatten).ev x=ad v)(hy:(bm dep n t ms.flatten).ev Q=ad w)(a:RR tt ms L v w=ad (f,b,p)):
  gD P n #[o] 0 (bm dep n t ms.flatten) (bm dep n t (qq f b ms).flatten) k (k+1) (bJ [x,Q]++cY [f],[.m f])/\(∃s,bw f ms=ad s/\∀d∈b.ak,d∈s.ak\/d∈cp p):=by
 have C:GQ tt (bm dep n t ms.flatten) L v w=ad (f,b)/\∃s,bw f ms=ad s/\∀d∈b.ak,d∈s.ak\/d∈cp p:=by
  unfold RR at a;unfold GQ;split at a
  .rename_i sz M g u A K D;simp only[K,D];have e:U g (bm dep n t ms.flatten).mem=bw g ms:=jy g ms;simp only[e];unfold Y' at a;split at a
   .rename_i E N z F;split at a
    .rename_i l;simp only[cD]at l;split at a
     .rename_i x W;cases a;obtain⟨O,rfl⟩:=Y8 p u z x W;have B:Z p=sz:=kO l.1;simp only[F];rw[q ⟨B,G,Y9 l.2⟩];exact⟨J,_,J,λd I=>Dx z p u d I⟩
     .cases a
    .cases a
   .cases a
  .cases a
 refine⟨?_,C.2⟩
 let ⟨C,s,X,_⟩:=C
 refine gD.mu (Xy H (ops:= #[o]) (i:=0) J hg hd T W hy C k) ?_ ?_ ?_ mz
 .intro c r;rcases be.1 r with h|h
  .rcases be.1 h with h|h
   .exact dX _ _ c h
   .exact dX _ _ c h
  .exact lp _ _ c h
 .refine YV dep n t ms.flatten _ _ (λd=>?_)<|λd=>xb;rw[jy,Ep,X];simp only[bs,aC,Key.m.injEq];by_cases e:f=d
  .simp[e]
  .simp[e,bm,St.kn,jy]
 .exact Bo
end
def zg:∀{l:E eQ}{a:Key},a∈bJ l->∃d,a= .s d
 |[],a,h=>by simp[bJ]at h
 | .tmp d::b,a,h=>by simp only[bJ,bZ]at h;exact h.elim (λf=>⟨d,f⟩) zg
 | .const _::b,a,h=>zg (l:=b) (by simpa[bJ]using h)
 | .func _::b,a,h=>zg (l:=b) (by simpa[bJ]using h)
 | .global _::b,a,h=>zg (l:=b) (by simpa[bJ]using h)
def EI{b:V}:∀{l:E eQ},b∈slotsOf l↔Key.s b∈bJ l
 |[]=>by simp[slotsOf,bJ]
 | .tmp i::a=>by simp[slotsOf,bJ,EI (l:=a)]
 | .const _::a=>by simp[slotsOf,bJ,EI (l:=a)]
 | .func _::a=>by simp[slotsOf,bJ,EI (l:=a)]
 | .global _::a=>by simp[slotsOf,bJ,EI (l:=a)]
section
variable{P:bI}{tt:TT}{dep n:V}{t:Tr}{ms:Ms}{k:V}
def ZH:∀{l:E V}{a:E (V×E D4)},Eu dep n l=ad a->∀x∈a,x.2=cV dep x.1/\x.1<n/\x.1∈l
 |[],a,h,x,hx=>by simp only[Eu,aq]at h;subst h;cases hx
 |i::m,a,h,x,hx=>by
  simp only[Eu]at h;split at h
  .rename_i l b d;cases h;rcases bZ.1 hx with rfl|hx
   .exact⟨J,zf b,ax⟩
   .let ⟨f,h2,g⟩:=ZH d x hx;exact⟨f,h2,by simp[g]⟩
  .cases h
def ZI:∀{sl:E (V×E D4)},(∀x∈sl,x.2=cV dep x.1/\x.1<n)->∀{j:V}{v:AV},U j (nQ sl t)=ad v->j<n/\jx (cV dep j) t=ad v
 |[],_,j,v,h=>by simp[nQ,U]at h
 |x::a,b,j,v,h=>by
  have f:nQ (x::a) t=match jx x.2 t with|some v=>(x.1,v)::nQ a t|none=>nQ a t:=rfl
  rw[f]at h;let ⟨g,h2⟩:=b x ax;have d:=ZI (sl:=a) (λy hy=>b y uv) (j:=j) (v:=v);split at h
  .rename_i u i;simp only[U]at h;split at h
   .rename_i l;cases h;subst l;exact⟨h2,by rw[<-g];exact i⟩
   .exact d h
  .exact d h
def R3:∀{d:E V}{a:V}{b:aD},U a (sQ d ms)=ad b->bw a ms=ad b
 |[],a,b,h=>by simp[sQ,U]at h
 |i::f,a,b,h=>by
  have g:sQ (i::f) ms=match bw i ms with|some b=>(i,b)::sQ f ms|none=>sQ f ms:=rfl
  rw[g]at h;split at h
  .rename_i u l;simp only[U]at h;split at h
   .rename_i m;cases h;subst m;exact l
   .exact R3 h
  .exact R3 h
def BG{b:V}:∀{l:E Key},b∈mK l↔Key.m b∈l
 |[]=>by simp[mK]
 | .m d::a=>by simp[mK,BG (l:=a)]
 | .s d::a=>by simp[mK,BG (l:=a)]
def R4:∀{l:E Key},wS none l=ae->∀a,Key.s a∉l
 |[],_,a=>by simp
 | .m i::b,h,a=>by simp only[wS]at h;simpa using R4 h a
 | .s i::b,h,a=>by simp[wS]at h
def L'{d:V}:∀{l:E Key},wS (ad d) l=ae->∀a,Key.s a∈l->a=d
 |[],_,a,hj=>by simp at hj
 | .m i::b,h,a,hj=>by simp only[wS]at h;exact L' h a pZ
 | .s i::b,h,a,hj=>by
  simp only[wS]at h;split at h
  .rename_i f;rcases bZ.1 hj with g|hj
   .cases g;exact(kO f).symm
   .exact L' h a hj
  .cases h
def Ma{a:V}:∀{l:E V},By a l=ae↔a∈l
 |[]=>by simp[By]
 |x::f=>by
  simp only[By];cases d:il x a with
  |true=>simp[(kO d).symm]
  |false=>
   have b:a≠x:=by intro e;subst e;simp[Bt]at d
   simp[Ma (l:=f),b]
def Mb{b:E V}:∀{l:E Key},rS b l=ae->∀a,Key.s a∈l->a∈b
 |[],_,a,hj=>by simp at hj
 | .m i::d,h,a,hj=>by simp only[rS]at h;exact Mb h a pZ
 | .s i::d,h,a,hj=>by
  simp only[rS]at h;split at h
  .rename_i f;rcases bZ.1 hj with g|hj
   .cases g;exact Ma.1 f
   .exact Mb h a hj
  .cases h
def R5{b d}{f}{a}(i:a<b)(h:a∉Bx b d f):a∉f/\a≠d:=by
 unfold Bx at h;split at h
 .simp only[bZ,not_or]at h;exact⟨h.2,h.1⟩
 .rename_i g;refine⟨h,?_⟩;intro e;subst e;have:dt a b=ae:=by simpa[sO]using i
  rw[this]at g;cases g
structure akC(k i:V)(l f:Mem)(g:E V)(ms:Ms)(m:E V)(d:Ms)(h:E V):Prop where
 out:∀a,a∉g->bw a d=bw a ms
 Mc:∀a,a∈g->bw a d=U a f
 gone:∀a,a∈g->U a f=none->∃b,U a l=ad b
 log:∀a,a<i->a∉h->a∉m/\bw a d=bw a ms
 BH:∀a b,a<i->bw a d=ad b->∃o,bw a ms=ad o
 wf:ff ms (k+1)->ff d (k+1)
 tl:lT ms d
def Md{x:V}(L:x<=k){Q g:Mem}:∀{W:E V}{ms:Ms}{B:E V}{p:Ms}{s:E V},Bz k x Q g W ms B=ad (p,s)->akC k x Q g W ms B p s
 |[],ms,B,p,s,h=>by
  have:ms=p/\B=s:=by simpa[Bz]using h
  obtain⟨rfl,rfl⟩:=this;exact⟨λ_ _=>rfl,λ_ h=>fR,λ_ h=>fR,λ_ _ h=>⟨h,J⟩,λ_ b _ h=>⟨b,h⟩,λh=>h,lT.refl _⟩
 |i::r,ms,B,p,s,h=>by
  have e:Bz k x Q g (i::r) ms B=match mA i g with
   |some b=>(match HK (k+1) b with
    |true=>(match il i k with
     |true=>Bz k x Q g r (y' k b ms) B
     |false=>(match bw i ms with
      |some _=>Bz k x Q g r (qq i b ms)<|Bx x i B
      |none=>none))
    |false=>none)
   |none=>(match mA i Q with
    |some _=>Bz k x Q g r (uk i ms)<|Bx x i B
    |none=>none):=rfl
  rw[e]at h;simp only[xv]at h;split at h
  .rename_i b T;split at h
   .rename_i K;split at h
    .rename_i C;have C:i=k:=kO C;have f:=Md L h;refine⟨?_,?_,?_,?_,?_,?_,(akx k b ms).trans f.tl⟩
     .intro j a;simp only[bZ,not_or]at a;rw[f.out j a.2,HI,y<|by rw[<-C];exact λe=>a.1 e.symm]
     .intro j a;by_cases u:j∈r
      .exact f.Mc j u
      .have:j=i:=by simpa[u]using a
       subst this;rw[f.out j u,HI,q C.symm,T]
     .intro j a H;rcases bZ.1 a with rfl|a
      .rw[T]at H;cases H
      .exact f.gone j a H
     .intro j a o;let ⟨m,h2⟩:=f.log j a o;exact⟨m,by rw[h2,HI,y G]⟩
     .intro j X a v;let ⟨c,N⟩:=f.BH j X a v;rw[HI,y G]at N;exact⟨c,N⟩
     .intro o;refine f.wf ?_;intro z A d;rw[HI]at d;split at d
      .rename_i D;cases d;exact⟨G,Zb K⟩
      .exact o z A d
    .split at h
     .rename_i c w;have f:=Md L h;have l:∀j,bw j (qq i b ms)=if i=j then ad b else bw j ms:=by intro j;rw[Ep,w]
      refine⟨?_,?_,?_,?_,?_,?_,(R2 i b ms).trans f.tl⟩
      .intro j a;simp only[bZ,not_or]at a;rw[f.out j a.2,l,y<|λe=>a.1 e.symm]
      .intro j a;by_cases u:j∈r
       .exact f.Mc j u
       .have:j=i:=by simpa[u]using a
        subst this;rw[f.out j u,l,q J,T]
      .intro j a H;rcases bZ.1 a with rfl|a
       .rw[T]at H;cases H
       .exact f.gone j a H
      .intro j a o;let ⟨m,h2⟩:=f.log j a o;let ⟨F,I⟩:=R5 a m;exact⟨F,by rw[h2,l,y<|λe=>I e.symm]⟩
      .intro j X a v;let ⟨M,m⟩:=f.BH j X a v;rw[l]at m;split at m
       .rename_i D;subst D;exact⟨c,w⟩
       .exact⟨M,m⟩
      .intro o;refine f.wf ?_;intro z A d;rw[l]at d;split at d
       .rename_i D;cases d;subst D;exact⟨(o _ _ w).1,Zb K⟩
       .exact o z A d
     .cases h
   .cases h
  .rename_i T;split at h
   .rename_i c w;have f:=Md L h;refine⟨?_,?_,?_,?_,?_,?_,(akw i ms).trans f.tl⟩
    .intro j a;simp only[bZ,not_or]at a;rw[f.out j a.2,Bu,y<|λe=>a.1 e.symm]
    .intro j a;by_cases u:j∈r
     .exact f.Mc j u
     .have:j=i:=by simpa[u]using a
      subst this;rw[f.out j u,Bu,q J,T]
    .intro j a H;rcases bZ.1 a with rfl|a
     .exact⟨c,w⟩
     .exact f.gone j a H
    .intro j a o;let ⟨m,h2⟩:=f.log j a o;let ⟨F,I⟩:=R5 a m;exact⟨F,by rw[h2,Bu,y<|λe=>I e.symm]⟩
    .intro j X a v;let ⟨M,m⟩:=f.BH j X a v;rw[Bu]at m;split at m
     .cases m
     .exact⟨M,m⟩
    .intro o;refine f.wf ?_;intro z A d;rw[Bu]at d;split at d
     .cases d
     .exact o z A d
   .cases h
structure Left(h:V)(dep n:V)(t:Tr)(ms:Ms)(k:V)(i:E V)(l:Tr)(a:Ms)(f:V)(g:E V):Prop where
 le:k<=f
 dO:dO dep n l f
 ff:ff a f
 log:∀d,d<h->d∉g->d∉i/\bw d a=bw d ms
 BH:∀d b,d<h->bw d a=ad b->∃m,bw d ms=ad m
 tl:lT ms a
def uw{d}{v}{g}{i}{f:Ft}{l}{a}{m}{b}{o:Ft}(h:uo d v t ms g i f= .ok l a m b o):l=jH d v t/\a=ms/\m=g/\b=i/\o=f/\∀p∈v.ak,p<g:=by
 unfold uo at h;split at h
 .rename_i s;simp only[Rs.ok.injEq]at h;let ⟨u,h2,w,x,B⟩:=h;exact⟨u.symm,h2.symm,w.symm,x.symm,B.symm,akh s⟩
 .cases h
def akD(b7:cq P tt=ae){ke}(qm:ke<=k)(hn:n<=4^dep){o:aX}(hg:o.guard=none){d:au (V×E D4)}(hd:o.dst=d.map (·.1))(HV:∀x,d=ad x->x.2=cV dep x.1/\x.1<n){W}(v5:Eu dep n (slotsOf o.op.operands.toList)=ad W)
  (lA:dO dep n t k) (jI:ff ms k) {wl}{t'}{lB}{k'}{kT}{f:Ft} (h:RS tt n ke d W o.op t ms k wl (nQ W t) (sQ (za<|nQ W t) ms)= .ok t' lB k' kT f):
  ∃ks,gD P n #[o] 0 (bm dep n t ms.flatten) (bm dep n t' lB.flatten) k k' ks/\(∀g,Key.s g∈ks.1->g∈slotsOf o.op.operands.toList)/\(∀g,Key.s g∈ks.2->o.dst=ad g)/\(∀a,Key.m a∈ks.1->rF f a)/\(∀a,Key.m a∈ks.2->m9 f a)/\Left ke dep n t ms k wl t' lB k' kT:=by
 have T:=ZH v5
 have B:∀l x,St.kn ⟨nQ W t,sQ (za<|nQ W t) ms,0,[]⟩ l=ad x->(bm dep n t ms.flatten).kn l=ad x:=by
  intro l x F;cases l with
  |s g=>
   simp only[St.kn,bS]at F
   obtain⟨v,hv,rfl⟩:=F
   let ⟨c,I⟩:=ZI (dep:=dep) (n:=n) (λbN hy=>⟨(T bN hy).1,(T bN hy).2.1⟩) hv
   simp[bm,St.kn,sM,c,I]
  |m a=>
   simp only[St.kn,bS]at F
   obtain⟨v,hv,rfl⟩:=F
   simp[bm,St.kn,jy,R3 hv]
 unfold RS at h
 split at h
 .rename_i R k1 ks hs;split at h
  .rename_i M;simp only[cD]at M;let ⟨⟨S,K⟩,BI⟩:=M;have S:k1=k+1:=kO S;subst S;split at h
   .rename_i R6 wl2 ha;have Y:=Md qm ha;rw[<-hd]at hs K;let ⟨rd,wr,A,fE,sy,hle,v7,Z⟩:=aj1 b7 (λ_ _ _ _ _ _ _ h=>by simp[Zc]at h) (o:=o) hg hs;have L:∀l,l∉ks.2->aC wr l=none:=by
     intro l hk;cases X:aC wr l with
     |none=>rfl
     |some x=>exact absurd (Z l<|AO<|by simp[oL,X]) hk
    have N:∀a,(U a R6.flatten).map Info.b=bs (bm dep n t ms.flatten).kn wr (.m a):=by
     intro a;rw[jy];by_cases D:a∈mK ks.2
     .rw[Y.Mc a D];have c:(U a R.mem).map Info.b=bs (St.kn ⟨nQ W t,sQ (za<|nQ W t) ms,0,[]⟩) wr (.m a):=by rw[<-sy];rfl
      rw[c];simp only[bs];cases X:aC wr (.m a)with
      |some x=>rfl
      |none=>
       simp only
       have I:(U a R.mem).map Info.b=(U a<|sQ (za<|nQ W t) ms).map Info.b:=by rw[c];simp only[bs,X];rfl
       cases hm:U a R.mem with
       |none=>
        let ⟨b,hb⟩:=Y.gone a D hm
        rw[hm,hb]at I
        simp at I
       |some b=>
        rw[hm]at I
        simp only[vH]at I
        rw[show St.kn ⟨nQ W t,sQ (za<|nQ W t) ms,0,[]⟩ (.m a)=ad (Info.b b)from I.symm]
        exact(B (.m a) (.b b) I.symm).symm
     .rw[Y.out a D];simp only[bs,L (.m a)<|λhc=>D<|BG.2 hc];simp[bm,St.kn,jy]
    have hL:∀{ZJ:Tr},dO dep n ZJ (k+1)->Left ke dep n t ms k wl ZJ R6 (k+1) wl2:=λhw=>⟨G,hw,Y.wf<|jI.le G,Y.log,Y.BH,Y.tl⟩
    cases d with
    |none=>
     simp only[Rs.ok.injEq]at h
     obtain⟨rfl,rfl,rfl,rfl,rfl⟩:=h
     have Q:o.dst=none:=hd
     rw[Q]at K
     refine⟨ks,⟨rd,wr,A,λkx r=>B _ _<|fE kx r,?_,hle,v7,Z⟩,?_,?_,?_,?_,hL<|lA.le G⟩
     .exact YV dep n t ms.flatten _ wr N<|λg=>L _<|R4 K g
     .intro g w;let ⟨x,F,e⟩:=kF.1<|Mb BI g w;rw[<-e];exact(T x F).2.2
     .intro g w;exact absurd w<|R4 K g
     .intro a u;exact BG.2 u
     .intro a u;exact BG.2 u
    |some x=>
     let ⟨O,dp⟩:=x
     let ⟨C,H⟩:=HV (O,dp) J
     simp only at C H
     have Q:o.dst=ad O:=hd
     rw[Q]at K
     simp only at h
     split at h
     .rename_i v hv;obtain⟨rfl,rfl,rfl,rfl,rfl,z⟩:=uw h;subst C;refine⟨ks,⟨rd,wr,A,λkx r=>B _ _<|fE kx r,?_,hle,v7,Z⟩,?_,?_,?_,?_,hL<|(lA.le G).set hn H z⟩
      .funext l;cases l with
       |m a=>exact N a
       |s g=>
        rw[Ej]
        simp only
        by_cases e:g=O
        .subst e;rw[q H,HE];have c:bs (St.kn ⟨nQ W t,sQ (za<|nQ W t) ms,0,[]⟩) wr (.s g)=ad (.v v):=by rw[<-sy];simp[St.kn,hv]
         simp only[bs]at c⊢;cases X:aC wr (.s g)with
         |some bN=>rw[X]at c;simp only at c⊢;rw[c];rfl
         |none=>rw[X]at c;simp only at c⊢;rw[B _ _ c];rfl
        .have Bc:aC wr (.s g)=none:=L _<|λhc=>e<|L' K g hc;simp only[bs,Bc,bm,St.kn,sM];by_cases w:g<n
         .rw[q w,q w,Ei _ _ _ _ Ek<|λe'=>e (Bs dep G G e').symm]
         .rw[y w,y w]
      .intro g w;let ⟨x,F,e⟩:=kF.1<|Mb BI g w;rw[<-e];exact(T x F).2.2
      .intro g w;rw[Q,L' K g w]
      .intro a u;exact BG.2 u
      .intro a u;exact BG.2 u
     .cases h
   .cases h
  .cases h
 .cases d with
  |none=>cases h
  |some x=>
   let ⟨O,dp⟩:=x
   let ⟨C,H⟩:=HV (O,dp) J
   simp only at C H
   subst C
   have Q:o.dst=ad O:=hd
   dsimp only at h
   unfold LV at h
   split at h
   .rename_i v p he;split at h
    .rename_i zh;obtain⟨rfl,rfl,rfl,rfl,rfl,z⟩:=uw h;have A:=RE (P:=P) b7 (ops:= #[o]) (i:=0) J hg Q H he (En zh) k;refine⟨(bJ o.op.operands.toList,[.s O]),gD.mu A (λkx r=>B _ _<|ri _ _ kx r) (Em dep n t _ O v hn H) Bq mz,?_,?_,?_,?_,⟨G,(lA.le G).set hn H z,jI.le G,λ_ _ h=>⟨h,J⟩,λ_ b _ h=>⟨b,h⟩,lT.refl _⟩⟩
     .intro g w;exact EI.2 w
     .intro g w;simp only[iw,Key.s.injEq]at w;rw[Q,w]
     .intro a u;let ⟨g,w⟩:=zg u;cases w
     .intro a u;simp at u
    .cases h
   .cases h
end
end Go.El
