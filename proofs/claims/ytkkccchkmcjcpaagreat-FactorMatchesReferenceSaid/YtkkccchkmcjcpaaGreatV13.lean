/- The engine, part 56: the statement that ranges over a function, by contracts. Own work; no condition. -/
import Derived.Test.YtkkccchkmcjcpaaGreatV12
import Derived.Test.YtkkccchkmcjcpaaGreatV11
import Derived.Test.YtkkccchkmcjcpaaGreatV5
import Derived.Test.YtkkccchkmcjcpaaGreatV8
import Derived.Test.YtkkccchkmcjcpaaGreatV9
import Derived.Test.YtkkccchkmcjcpaaGreatV10
set_option linter.all false
set_option maxHeartbeats 16000000
set_option maxRecDepth 100000
open Array renaming replicate->Uy
open BitVec renaming ofInt->iq
open Bool renaming false->ah,true->ae
open Classical renaming choose->wm
open Go renaming Program->cT
open Go.Deferred renaming ofValue->HN
open Go.El renaming rr->e,cS->N,vL->q,gy->L,cI->D,re->o,auI->z,rb->t,kZ->w,ps->h
open Go.IntKind renaming bits->cr,wrap->ao
open Go.Proofs.Tryz renaming prog->j
open Go.World renaming alloc_heap_new->apt
open Int renaming toNat->ad,tdiv->UB,natAbs->aq
open List renaming length->G,drop->aE,getD->Y,range->be,take->y,mem_of_find?_eq_some->ap9,replicate->bh
open Nat renaming ble->iv,testBit->mO
open _root_ renaming List->V,Nat->I,Int->Z,Rat->O
namespace Go.El
open Go Go.Proofs Go.RowKit
def OM:vn:=λF a W=>F.k0=0/\F.rd=none/\∃mk:V I,a=mk.map sk/\(∀D∈mk,W.heap[D]? =some (.deferred<|some [])/\F.w0.heap.size<=D)/\mk.Nodup
def N4:z5 OM:=λ_ _ _ _ c ⟨d,f,mk,g,a,i⟩=>⟨d,f,mk,g,λD b=>⟨c.same _ _ (a D b).1 J,(a D b).2⟩,i⟩
def pe.Q(R:pe)(d:Bool)(c:I)(Mo:V (I×aH)):ix:=λF e a W=>(e= .normal\/e= .ret)/\(∃g b,1<=b/\bu (F.dr []) (·<1000000*b) (St.kn ⟨[],Mo,b,[]⟩) g W a)/\R.O (n7 d c) F [] W
def p8(a:V (I×C)):V (I×AV):=a.map λs=>(s.1,.c s.2)
def q7(a:V (I×C)):V (Bool×V C):=a.map λs=>(ah,[s.2])
def N5{b:I}{v:AV}:∀{d:V (I×C)},w b (p8 d)=some v->∃c,v= .c c/\w b d=some c
 |[],a=>by simp[p8,w]at a
 |f::d,a=>by
  simp only[p8,gZ,w]at a⊢;by_cases g:f.1=b
  .rw[s g]at a⊢;cases a;exact⟨f.2,J,J⟩
  .rw[M g]at a⊢;exact N5 a
def adf{g:Gh}:∀{b c:V (Bool×V C)}{d vs:V Value},dt g b d->dt g c vs->dt g (b++c) (d++vs)
 |[],_,_,_,a,f=>by simp only[dt]at a;subst a;exact f
 |l::b,c,d,vs,a,f=>by obtain⟨v,r,rfl,i,k⟩:=a;exact⟨v,r++vs,J,i,adf k f⟩
def adg{g:Gh}{f:I->Value}:∀{b:V (I×C)},(∀a∈b,dn g a.2 (f a.1))->dt g (q7 b) (b.map λa=>f a.1)
 |[],_=>rfl
 |a::b,c=>⟨_,_,J,c a ax,adg λx hx=>c x iB⟩
def Ux{g:Gh}{f:I->Value}{i:V (Bool×V C)}{vs:V Value}:∀{b:V (I×C)},dt g (q7 b++i) ((b.map λa=>f a.1)++vs)->(∀a∈b,dn g a.2 (f a.1))/\dt g i vs
 |[],c=>⟨λa l=>(by cases l),c⟩
 |a::b,c=>by
  let ⟨v,r,k,m,h2⟩:=c;simp only[gZ,kU,JW]at k;obtain⟨rfl,rfl⟩:=k;let ⟨i1,i2⟩:=Ux h2;refine⟨λx d=>?_,i2⟩;rcases df.1 d with rfl|d
  .exact m
  .exact i1 x d
def z7{b:Type}{c:I}{v:b}:∀{l:V (I×b)},w c l=some v->(c,v)∈l
 |[],a=>by simp[w]at a
 | (k,f)::l,a=>by
  simp only[w]at a;split at a
  .rename_i d;cases a;subst d;simp
  .exact uj _<|z7 a
section
variable{P:cT}
def apj{n0 nI}{Jb}{p}{j3 bd}{U}{Q}{cid f:I}{fn}{cb}{capsI}{wsI}{Sc}{M Mo}{bo}{xid}
  (hg:U.ev Jb=some (.c<|.X cid)) (sM:w cid U.mem=some (.fX f [] capsI)) (J4:vS capsI=some wsI) (N6:P.funcs[f]? =some fn) (vD:fn.body=some cb) (hnI:fn.ntmps=nI) (yU:(fn.name != "runtime.NumGoroutine")=ae) (apl:fn.results= #[]) (hlen:G wsI+1<=nI)
  (Mi:1<=U.nx) (hp:p<n0) (Uo:qD j3=ae) (Up:qD bd=ae)
  (N7:∀r∈Sc,w r.1 U.sl=some (.c r.2)) (Ss:w p (p8 Sc)=none) (hz:∀B v,w B U.sl=some v->0∉v.ar) (hM:∀i b,w i M=some b->w i U.mem=some b) (I9:∀i b,w i U.mem=some b->i≠0/\0∉b.ar)
  (yl:∀i b,w i Mo=some b->i≠0/\i<1000000*U.nx/\∀fQ∈b.ar,fQ<1000000*U.nx)
  (hI:∀R:pe,R.Ok->R.n0=n0->R.S0=p8 Sc->R.caps=q7 Sc++capsI->R.p=p->R.j3=j3->R.bd=bd->TJ P nI cb ⟨(0,.c<|.V<|.func (.yield R.l) #[] #[])::k8 1 wsI,(0,.fX 0 [] (q7 Sc++capsI))::M,U.nx,[]⟩ (R.O none) (R.Q bo xid<|(0,.fX 0 [] (q7 Sc++capsI))::Mo))
  (hk:gW n0 (if bo then .normal else .exit xid) ⟨p8 Sc,Mo,U.nx,[]⟩ OM Q):TJ P n0 (.rangeFunc Jb ⟨[p]⟩ j3 bd) U OM Q:=by
 intro F hF s5 vz ds g W a hh hO
 obtain⟨ok0,ord,mk,rfl,wR,apm⟩:=hO
 let ⟨sl,mem,nx,gd⟩:=U
 simp only at sM Mi N7 hz hM I9 yl hI hk
 have Hw:a.eval Jb=g.γ cid:=gO hh _ Jb _ hg<|gw _ Jb
 have CI:(St.kn ⟨sl,mem,nx,gd⟩) (.m cid)=some (.b<|.fX f [] capsI):=by simp[St.kn,sM]
 let ⟨us0,h,hγ,o,Ee⟩:=hh.db cid _ CI
 have o:us0=[]:=o
 subst o
 have yH:=KE J4 Ee
 have z:∀fQ∈fN capsI,fQ<1000000*nx/\fQ≠0:=λfQ hj=>by
  have h1:fQ∈(aH.fX f [] capsI).ar:=by simpa[aH.ar,fN]using hj
  exact⟨hh.ar (.m cid) _ CI fQ h1,λe=>(I9 cid _ sM).2<|e▸h1⟩
 have apo:oJ P f=ae:=by simp[oJ,N6,vD,yU]
 have apq:∀r∈Sc,dn g r.2 (a.tmps.getD r.1 undef):=λr hs=>hh.gM r.1 (.c r.2) (by simp[St.kn,N7 r hs])
 have A:∀r∈Sc,∀i∈r.2.ar,i<1000000*nx/\i≠0:=λr hs i d=>⟨hh.ar (.s r.1) (.v<|.c r.2) (by simp[St.kn,N7 r hs]) i d,λe=>hz r.1 _ (N7 r hs)<|e▸d⟩
 rw[ord]
 refine wpIn_rangeFunc (F:=iC none)<|λm5 _=>?_
 obtain⟨R,E⟩:∃R:pe,R={n0:=n0,a0:=a,S0:=p8 Sc,caps:=q7 Sc++capsI,ws:=(Sc.map λr=>a.tmps.getD r.1 undef)++h,l:=W.heap.size+1,D:=W.heap.size,m5:=m5,p:=p,j3:=j3,bd:=bd,ms:=W.heap.size::mk}:=⟨_,J⟩
 obtain⟨K,N⟩:∃K,(W.alloc<|.deferred<|some []).alloc (.loop {state:= .ready,pending:=none,fn:=m5,tmps:=a.tmps,params:= #[p],assign:=j3,body:=bd,defers:=W.heap.size})=K:=⟨_,J⟩
 refine⟨W.heap.size+1,[sk W.heap.size],K,{target:= .fn (.func f) h.toArray,args:= #[.func (.yield<|W.heap.size+1) #[] #[]]},K,f,#[.func (.yield<|W.heap.size+1) #[] #[]]++h.toArray,K,?_,?_,λ_ _=>trivial,Qs apo,λhh=>JL,?_⟩
 .rw[<-N];exact run_enterLoop_outer m5 a.tmps #[p] j3 bd
 .simp only[resolve,Hw,hγ,HN];simp[Act.eval]
 have hx1:WX F.w0.heap.size W K:=by rw[<-N];exact(WX.alloc _ _ _).trans<|WX.alloc _ _ _
 have hB:F.w0.heap.size<=W.heap.size:=hh.below.size
 have hD1:K.heap[W.heap.size]? =some (.deferred<|some []):=by rw[<-N];exact(Below.heap_alloc _ _ _ ax).trans<|apt W _
 have hL1:K.heap[W.heap.size+1]? =some (.loop<|sj m5 a.tmps p j3 bd W.heap.size none):=by rw[<-N];have:=apt (w:=W.alloc<|.deferred<|some [])<|.loop {state:= .ready,pending:=none,fn:=m5,tmps:=a.tmps,params:= #[p],assign:=j3,body:=bd,defers:=W.heap.size};rwa[World.size_alloc]at this
 have adk:∀D∈W.heap.size::mk,K.heap[D]? =some (.deferred<|some []):=by
  intro D hD;rcases df.1 hD with rfl|hD
  .exact hD1
  .have h1:=(wR D hD).1;rw[<-N];exact(Below.heap_alloc _ _ _<|by have:=(jP.1 h1).1;simp;omega).trans<|(Below.heap_alloc _ _ _ (jP.1 h1).1).trans h1
 have N0:W.heap.size+1∉W.heap.size::mk:=by intro hc;have:=adk _ hc;rw[hL1]at this;cases this
 have apu:dt g R.caps R.ws:=by rw[E];exact adf (adg (f:=λB=>a.tmps.getD B undef) apq) Ee
 have hcm:∀i∈fN R.caps,i≠0/\i<1000000*nx:=by
  rw[E];have key:∀{L:V (I×C)},(∀r∈L,∀i∈r.2.ar,i<1000000*nx/\i≠0)->∀i∈fN (q7 L++capsI),i≠0/\i<1000000*nx:=by
   intro L;induction L with
   |nil=>intro _ i d;exact⟨(z i d).2,(z i d).1⟩
   |cons r L ih=>
    intro hL i d
    simp only[q7,gZ,kU,fN,b8]at d
    rcases d with d|d
    .have:i∈r.2.ar:=by simpa[cy]using d
     exact⟨(hL r ax i this).2,(hL r ax i this).1⟩
    .exact ih (λx hx=>hL x iB) i d
  exact key A
 have Ut:=bu.ghost (k:=1000000*nx) (hh.wx (W':=K) hx1) (nx':=nx) (gd':=[]) S ok0 hz I9 apu hcm
 have ok:R.Ok:=by
  rw[E];refine⟨hp,?_,N0,Uo,Up,λg' Sh B v hv=>?_,Ss⟩
  .have:=hh.size;simpa[eF.dr,hF]using this
  .obtain⟨c,rfl,hc⟩:=N5 hv;exact(Ux (f:=λB=>a.tmps.getD B undef) Sh).1 (B,c)<|z7 hc
 have xq:G h=G wsI:=yS yH
 have adn:(#[.func (.yield<|W.heap.size+1) #[] #[]]++h.toArray:Array Value)=(.func (.yield<|W.heap.size+1) #[] #[]::h).toArray:=ax
 rw[adn]
 refine callsIn_of_wp (F:=iC none) N6 vD T ?_
 have hA1:bu ({F with n:=nI,ds:=[],rd:=none,k0:=1,γ0:=λ_=>ny R.ws}:eF) (·<1000000*nx) (St.kn ⟨(0,.c<|.V<|.func (.yield R.l) #[] #[])::k8 1 wsI,(0,.fX 0 [] (q7 Sc++capsI))::M,nx,[]⟩) (g.new 0<|ny R.ws) K {tmps:=(.func (.yield<|W.heap.size+1) #[] #[]::h).toArray++Uy (fn.ntmps-(.func (.yield<|W.heap.size+1) #[] #[]::h).toArray.size) undef,defers:=[]}:=by
  refine bu.frame (F:={F.dr (mk.map sk)with k0:=1,γ0:=λ_=>ny R.ws}) Ut (by simp[xq,hnI];omega) J (λB v hv=>?_)<|λi b hb=>?_
  .simp only[w]at hv;split at hv
   .rename_i e;cases hv;subst e;refine⟨?_,λi d=>by cases d⟩;show _=_;rw[E,ux,yW ax];simp
   .rename_i e;let ⟨h1,u,h2,h3,h4⟩:=oL wsI h 1 yH B v hv;have iD:B-1<G h:=(uv.1 h2).1;have Y:∀i∈v.ar,i<1000000*nx/\i≠0:=λi d=>z i (XO J4 i<|h4 i d)
    refine⟨?_,λi d=>(Y i d).1⟩;rw[ux,yW bP];have Uw:(.func (.yield<|W.heap.size+1) #[] #[]::h).toArray[B]? =some u:=by rw[FI,(S:B=(B-1)+1),At,h2]
    rw[Uw];have mX:iT (λi=>i≠0) g (g.new 0<|ny R.ws):=⟨cz.refl _,λi d=>by simp[Gh.new,d]⟩;exact bI.mono mX (λi d=>(Y i d).2) h3
  .simp only[w]at hb⊢;split at hb
   .rename_i e;cases hb;subst e;rw[E];simp
   .rename_i e;rw[ado e];exact hM i b hb
 have hO1:R.O none ({F with n:=nI,ds:=[],rd:=none,k0:=1,γ0:=λ_=>ny R.ws}:eF) [] K:=by
  refine⟨J,J,J,J,?_,?_,?_⟩
  .rw[E];show F.w0.heap.size<=W.heap.size+1;omega
  .rw[E];exact hL1
  .rw[E];exact adk
 have k4:=hI R ok (by rw[E]) (by rw[E]) (by rw[E]) (by rw[E]) (by rw[E]) (by rw[E]) ({F with n:=nI,ds:=[],rd:=none,k0:=1,γ0:=λ_=>ny R.ws}:eF) J (a8 _) (.inl J) [] (g.new 0<|ny R.ws) K _ hA1 hO1
 refine wpIn_mono (F:=iC none) k4 ?_
 rintro e a' W' ⟨he,⟨g',nx',Us,hA'⟩,hO'⟩
 let ⟨_,_,_,_,_,Z,adq⟩:=hO'
 have N8:a'.defers=[]:=hA'.defers
 have H:W'.heap[W.heap.size+1]? =some (.loop<|sj m5 a.tmps p j3 bd W.heap.size<|n7 bo xid):=by rw[E]at Z;exact Z
 have apy:∀D∈W.heap.size::mk,W'.heap[D]? =some (.deferred<|some []):=by rw[E]at adq;exact adq
 have hw4:WX F.w0.heap.size W' (W'.putObj (W.heap.size+1)<|.loop {sj m5 a.tmps p j3 bd W.heap.size (n7 bo xid)with state:= .exhausted}):=WX.putObj _ H J S
 have Ja:=hA'.wx hw4
 have hgr:dt g' R.caps R.ws:=Ja.NZ (caps:=R.caps) J J (by rw[E];simp[St.kn,w])
 have rH:bu (F.dr<|(W.heap.size::mk).map sk) (·<1000000*nx) (St.kn ⟨p8 Sc,Mo,nx,[]⟩) g' (W'.putObj (W.heap.size+1)<|.loop {sj m5 a.tmps p j3 bd W.heap.size (n7 bo xid)with state:= .exhausted}) {a with defers:=[sk W.heap.size]++a.defers}:=by
  have h5:bu ({F with n:=F.n,ds:=(W.heap.size::mk).map sk,rd:=F.rd,k0:=1,γ0:=λ_=>ny R.ws}:eF) (λi=>i<1000000*nx'\/i<1000000*nx) (St.kn ⟨p8 Sc,(0,.fX 0 [] (q7 Sc++capsI))::Mo,nx,[]⟩) g' (W'.putObj (W.heap.size+1)<|.loop {sj m5 a.tmps p j3 bd W.heap.size (n7 bo xid)with state:= .exhausted}) {a with defers:=[sk W.heap.size]++a.defers}:=by refine bu.frame (Ja.weaken<|λi d=> .inl d) (by have:=hh.size;simpa[eF.dr]using this) (by have:=hh.defers;simp only[this];rfl) (λB v hv=>?_)<|λi b hb=>hb;obtain⟨c,rfl,hc⟩:=N5 hv;have ads:=z7 hc;have h6:=(Ux (f:=λB=>a.tmps.getD B undef)<|by rw[E]at hgr;exact hgr).1 (B,c) ads;exact⟨h6,λi d=> .inr (A (B,c) ads i d).1⟩
  have h6:=h5.restrict (K':=(·<1000000*nx)) (λkey y hy i d=>?_) (λi y hy=>?_) (λi d=>by have:i<1:=d;show i<1000000*nx;omega)
  .have h7:=bu.frame (sl':=p8 Sc) (M':=Mo) (nx':=nx) (gd':=[]) (n':=F.n) (ds':=(W.heap.size::mk).map sk) (rd':=F.rd) (a':={a with defers:=[sk W.heap.size]++a.defers}) h6 h6.size h6.defers (λB v hv=>⟨h6.gM B v mq,λi d=>h6.ar (.s B) (.v v) mq i d⟩) (λi b hb=>by simp only[w];have:i≠0:=(yl i b hb).1;rw[ado (λe=>this e.symm)];exact hb);exact⟨h7.size,h7.defers,h7.gM,h7.db,h7.inj,h7.ar,h7.fD,h7.sub,h7.below,h7.le,h7.fresh,λi d=>by have:i<F.k0:=d;omega⟩
  .cases key with
   |s B=>
    simp only[St.kn,cd]at hy
    let ⟨mc,hw,e⟩:=hy
    subst e
    obtain⟨c,rfl,hc⟩:=N5 hw
    exact(A (B,c) (z7 hc) i d).1
   |m q=>
    simp only[St.kn,w,cd]at hy
    let ⟨mc,hw,e⟩:=hy
    subst e
    split at hw
    .cases hw;have:i∈fN R.caps:=by rw[E];simpa[Info.ar,aH.ar,fN]using d
     exact(hcm i this).2
    .exact(yl q mc hw).2.2 i d
  .simp only[St.kn,w,cd]at hy;let ⟨mc,hw,e⟩:=hy;split at hw
   .rename_i e2;subst e2;show 0<1000000*nx;omega
   .exact(yl i mc hw).2.1
 have hOM:OM F ((W.heap.size::mk).map sk) (W'.putObj (W.heap.size+1)<|.loop {sj m5 a.tmps p j3 bd W.heap.size (n7 bo xid)with state:= .exhausted}):=by
  refine⟨ok0,ord,W.heap.size::mk,J,λD hD=>⟨?_,?_⟩,?_⟩
  .have kj:D≠W.heap.size+1:=λe=>N0 (e▸hD)
   rw[World.putObj_heap_other kj];exact apy D hD
  .rcases df.1 hD with rfl|hD
   .exact hB
   .exact(wR D hD).2
  .refine yD.2 ⟨λhc=>?_,apm⟩;have:=(jP.1 (wR _ hc).1).1;omega
 have adt:rangePost (iC none) 0 P (W.heap.size+1) (Q F) {a with defers:=[sk W.heap.size]++a.defers} (.returned<|.tuple #[]) W':=by
  refine⟨n7 bo xid,_,run_endLoop (P:=P) H (by unfold n7;cases bo<;>simp[sj]),?_⟩;have hq:=hk F hF s5 _ g' _ _ rH hOM;unfold n7;cases bo with
  |true=>exact hq
  |false=>exact wpIn_exit hq
 have hre:(results fn a'.tmps).run P W'= .ok (.tuple #[]) W':=by simp[results,apl]
 rcases he with rfl|rfl
 .exact⟨N8,_,hre,adt⟩
 .exact⟨N8,_,hre,adt⟩
end
section
variable{P:cT}{tt:TT}
def adv{n}{a}{f}{E i}{F}{H}{R g:St}{ks}{k}{Q:St->Prop}{v}{B}
  (hs:a[i]? =some F->yG P n a i v B (rq (λi=>1000000*E+1000*i) i)) (U:∀m∈v,R.kn m.1=some m.2) (p:g.kn=dB R.kn B) (W:∀x∈gn v,x∈k.1) (oe:∀x∈oc B,x∈k.2) (bW:RG P n a f E (i+1) H g (ks++[k]) Q):RG P n a f E i (F::H) R ks Q:=by
 intro b
 have u:a[i]? =some F:=by have:=aC (λl=>l[0]?) b;simpa[rA]using this
 have c:aE (i+1) a.toList=H:=by rw[<-vK,b];rfl
 have C:=hs u
 let ⟨ds,K,hl,w,h2,y,z,X,A,D⟩:=bW c
 refine⟨(v,B)::ds,K,by simp[hl],?_,?_,?_,z,X,?_,D⟩
 .intro j hj;cases j with
  |zero=>simpa using C
  |succ j=>
   have:=w j xc
   rw[(S:i+(j+1)=i+1+j)]
   simpa using this
 .intro j hj m d;cases j with
  |zero=>simp only[vE]at d;simpa[vJ]using U m d
  |succ j=>
   simp only[CR]at d
   have:=h2 j xc m d
   rw[p]at this
   simpa[vJ]using this
 .rw[y,p];simp[vJ]
 .intro G;let ⟨e,⟨q,s⟩,r⟩:=A G;refine⟨k::e,⟨by simp[q],λj hj t=>?_⟩,by rwa[jR,List.singleton_append]at r⟩;cases j with
  |zero=>exact⟨W,oe⟩
  |succ j=>simpa using s j xc (by simpa using t)
def apB{n c1 k k'}{x}{i}{B:Oper}(ho:x[i]? =some B)(hg:B.guard=none){d:I}(hd:B.dst=some d)(dC:d<n){f}{args}{R}(U:B.op= .call ⟨.value<|.func f,args,R⟩)
 {st}{vs}{r:AV} {m:V (I×aH)} (hv:km st args.toList=some vs) (hm:fE vs=[]) (hf:CX P f vs [] k r m k') (E:k'<=c1) (Gw:∀c∈r.ar,k<=c) (oP:∀c b,w c m=some b->∀fQ∈b.ar,k<=fQ):
  yG P n x i (args.toList.flatMap<|dO st) ((.s d,some<|.v r)::s6 k m) (λc=>k<=c/\c<c1):=by
 intro F nF Q X O g W a K C bC q z
 have t:=yQ bC st _ _ hv q
 have u:d<a.tmps.size:=pq
 have A:=aiv hf (λc eo=>yL) (λc b h=>by simp[w]at h) (λc eo=> .inl<|Gw c eo) (λc b h=> .inr λfQ D=> .inl<|oP c b h fQ D) bC (λc eo=>C c ⟨eo.1,jD eo.2 E⟩) t (λc eo=>yL) (λc b h=>by simp[w]at h) u
 unfold wpOp
 simp only[ho,Region.wanted,hg,cA]
 refine .inl ?_
 unfold Oper.wp
 have y:(execOp a.eval B).run P W= .ok (.enter f<|args.map a.eval) W:=by
  have l:=hf.call;unfold oJ at l;rw[execOp,U];cases p:P.funcs[f]? with
  |none=>rw[p]at l;simp at l
  |some fn=>
   rw[p]at l
   simp only[eG,bne_iff_ne,ne_eq]at l
   have G:fn.body≠none:=by intro J;rw[J]at l;simp at l
   simp[resolve,Act.eval,HN,invoke,callFunc,p,l.1,G]
 rw[y]
 simp only[Oper.upon]
 have H:(args.map a.eval)=(args.toList.map a.eval).toArray:=uy
 rw[H]
 refine A.mono ?_
 rintro e L ⟨v,M,rfl,N⟩
 simp only[hd]
 refine z M L _<|N.weaken<|λc eo=>?_
 rcases eo with eo|eo
 .exact .inl eo
 .exact .inr ⟨eo.1,jD eo.2 E⟩
def adw(P:cT)(c:Func)(r:AV):ix:=λF e a W=>(∀b,¬F.own b)->bodyPostM (iC none) 0 P c (Ke F.w0 F.H0 r) e a W
def apC{n}{E}(i:cN P tt=ae){l}{Q}{R r}(U:oK tt E Q=some R)(m:a7 R r)(p:l.results=Q.toArray:=by rfl)(hm:r.ar=[]:=by rfl):gW n .ret E OM (adw P l r):=by intro F t C w g W a h K d;obtain⟨_,_,mk,rfl,v,x⟩:=K;have X:a.defers=mk.map sk:=h.defers;show LeavesInM (iC none) 0 P l a.tmps (Ke F.w0 F.H0 r) a.defers .returning W;rw[X];refine ac2 (B:=F.w0.heap.size) mk W v x ?_;intro e j;have c:=h.wx (W':=e) j;let ⟨u,hu,f⟩:=AG (P:=P) i c p U;refine⟨u,hu,u,g.H,J,?_,c.le,λb o q=>c.fresh b o q<|d b,c.sub,⟨c.below.os,c.below.tape,c.below.output,c.below.size,λk s=>c.below.block k s<|d k⟩⟩;exact(m.1 _ _ f).iw hm (cz.refl _) jc
def apD{n nx}{f}{g}{c}{args}{r}(hf:P.funcs[f]? =some g)(hb:g.body=some c)(hN:g.ntmps=n)(i:iv args.length n=ae)(E:fE args=[])(Q:r.ar=[])(yU:(g.name != "runtime.NumGoroutine")=ae)
  (l:TJ P n c ⟨k8 0 args,[],nx,[]⟩ OM (adw P g r)):af P f args r:=by
 refine⟨C9,Q,?_⟩
 intro H W vs p d
 refine callsIn_wide.1<|callsIn_of_wp_marks (n:=0) (F:=iC none) hf hb T ?_
 have R:=yS d
 have i:=cY i
 refine wpIn_mono (F:=iC none) (l {w0:=W,H0:=H,n:=n} rfl (aW _) (.inl J) [] ⟨H,jc⟩ W _ ⟨?_,J,?_,?_,?_,?_,?_,p,⟨J,J,J,a8 _,λ_ _ _=>rfl⟩,cz.refl _,λ_ _ _ _=>rfl,λ_ l=>absurd l<|yV _⟩ ⟨J,J,[],J,λD X=>(by cases X),List.nodup_nil⟩)<|λe a L o=>o<|λ_ l=>l
 .simp[hN,eF.dr];omega
 .intro t v U;simp only[St.kn,cd]at U;let ⟨x,hx,he⟩:=U;cases he;let ⟨_,u,hu,q,_⟩:=oL args vs 0 d t v hx;have B:vs[t]? =some u:=AH;have iD:t<G vs:=(uv.1 B).1;have:(vs.toArray++Uy (g.ntmps-vs.toArray.size) undef).getD t undef=u:=by rw[ux,yW C'];simp[B]
  rw[this];exact q
 .intro C b e;simp[St.kn,w]at e
 .intro C z b M k e;simp[St.kn,w]at e
 .intro k x e C K;cases k with
  |m j=>simp[St.kn,w]at e
  |s t=>
   simp only[St.kn,cd]at e
   let ⟨y,A,he⟩:=e
   subst he
   let ⟨_,u,_,_,I⟩:=oL args vs 0 d t y A
   have:=I C K
   rw[E]at this
   cases this
 .intro C x e;simp[St.kn,w]at e
end
def apE a b m E v(W:E+v<=100000)(la:G a<=1000)(lb:G b<=1000)(F:a≠[])(H:b≠[])(Bd:0<m)(k:∀i,aw E (Y a i 0))(l:∀i,aw v (Y b i 0))(hm:aw (E+v) m):
  lK Tryz.prog 161 [N .z a,N .z b,aZ m] 44 .z (nW a b m):=by
 refine vT Tryz.func161 J J J J A ?_
 have O:=bX.2 F
 have V:=bX.2 H
 have n:∀i,G (iR a b i)=G a+G b-1:=II a b
 refine e J<|t<|rm .z (G a+G b-1) J J J J J J (λg=>xr g) S ?_ ?_<|o J ?_
 .show _*32<=_;omega
 .show _*2<=_;omega
 refine L<|e J ?_
 refine q<|aK (α:=I) (λi=>⟨[(0,N .z a),(1,N .z b),(5,.c<|.P 0 0),(7,.c<|.X 1006000),(19,D<|G a),(20,D i)],[(0,.box 44 0<|av .z m),(1006000,.vec 44 .z<|iR a b i)],5,[]⟩) (λi=>i<=G a) (λi=>G a-i) 0 (aW _) (wk (aS J) ⟨bE J J,bR J,T⟩) ?_
 .intro i s;refine e J (L<|z J (λh=>?_)<|λh=>?_)
  .have h:i<G a:=by have h:(i:Z)<(G a:Z):=az h;omega
   refine ai<|L<|q<|e J<|e J ?_;refine q<|aK (α:=I) (λj=>⟨[(0,N .z a),(1,N .z b),(5,.c<|.P 0 0),(7,.c<|.X 1006000),(8,D i),(19,D<|G a),(20,D i),(24,D<|G b),(25,D j)],[(0,.box 44 0<|av .z m),(1006000,.vec 44 .z<|kz a b i j<|iR a b i)],8,[]⟩) (λj=>j<=G b) (λj=>G b-j) 0 (aW _) aM ?_;intro j hj;have C:G (kz a b i j<|iR a b i)=G a+G b-1:=by rw[IG,n]
   refine e J<|L<|z J (λf=>?_)<|λf=>?_
   .have f:j<G b:=by have f:(j:Z)<(G b:Z):=az f;omega
    have p:ad ((i:Z)+(j:Z))=i+j:=S;have w:=abW k l (i:=i) S (Nn k l i S) j<|i+j;have r:af Tryz.prog 105 [.a (av .z<|Y a (ad<|(i:Z)) 0),.a<|av .z<|Y b (ad<|(j:Z)) 0] (aZ<|Y a i 0*Y b j 0):=by rw[aV,aV];exact tb _ _ ((k i).sm S)<|(l j).sm S
    have x:af Tryz.prog 103 [.a (av .z<|Y (kz a b i j<|iR a b i) (ad<|(i:Z)+(j:Z)) 0),aZ<|Y a i 0*Y b j 0] (aZ<|Y (kz a b i j<|iR a b i) (i+j) 0+Y a i 0*Y b j 0):=by rw[p];exact zn _ _ (w.sm S)<|((k i).mul<|l j).sm S
    refine ai<|L<|q<|e J<|bs<|rc J J r (hp:=ak)<|rc J J x<|jx (Y (kz a b i j<|iR a b i) (i+j) 0+Y a i 0*Y b j 0) J J J J J (by rw[C];omega) (o J ?_) (hp:=ak);refine aT<|rt J<|aA (j+1) f Hd<|wk (aS J) ⟨bR J,bE J ?_,T⟩;rw[kz,p]
   .have f:j=G b:=by have f:¬(j:Z)<(G b:Z):=aL f;omega
    subst f;exact aN<|aT<|rt J<|aA (i+1) h ka<|wk (aS J) ⟨bR J,bE J J,T⟩
  .have h:i=G a:=by have h:¬(i:Z)<(G a:Z):=aL h;omega
   subst h;have y:=Nn k l (G a) S;have M:=n<|G a;have K:nW a b m=(iR a b<|G a).map (·%m):=rfl;rw[K];generalize iR a b (G a)=d at*;refine aN<|ay ?_;refine L<|e J ?_;refine q<|aK (α:=I) (λi=>⟨[(1,N .z b),(5,.c<|.P 0 0),(7,.c<|.X 1006000),(52,D<|G d),(53,D i)],[(0,.box 44 0<|av .z m),(1006000,.vec 44 .z<|(d.map (·%m)).take i++aE i d)],12,[]⟩) (λi=>i<=G d) (λi=>G d-i) 0 (aW _) aM ?_;intro i s;have B:((d.map (·%m)).take i).length=i:=bP;have Q:((d.map (·%m)).take i++aE i d).length=G d:=bP;have R:((d.map (·%m)).take i++aE i d).getD i 0=Y d i 0:=by rw[aF,vF S,B,gx,rA,jE,<-aF]
   refine e J<|L<|z J (λh=>?_)<|λh=>?_
   .have h:i<G d:=by have h:(i:Z)<(G d:Z):=az h;omega
    have U:af Tryz.prog 162 [.a (av .z<|((d.map (·%m)).take i++aE i d).getD (ad<|(i:Z)) 0),aZ m] (.t [(ae,av .z<|Y d i 0/m),(ae,av .z<|Y d i 0%m),(ah,[.I .i64 0])]):=by rw[aV,R];exact v8 _ m S ((y i).sm S)<|hm.sm S
    refine ai<|L<|q<|e J<|bs<|rc J J U (hp:=ak)<|jx (Y d i 0%m) J J J J J (by show ad (i:Z)<_;rw[aV,Q];exact h) (o J ?_) (hp:=ak);refine aT<|rt J<|aA (i+1) h (S:G d-(i+1)<G d-i)<|wk (aS J) ⟨bR J,bE J ?_,T⟩;refine aC (aH.vec 44 .z) ?_;rw[aV,jK _ i (by simp;exact h),jR,oR _ _ S,B,gx,lY h,A9,getD_map<|dj m];rfl
   .have h:i=G d:=by have h:¬(i:Z)<(G d:Z):=aL h;omega
    subst h;rw[BO,iW,iI ax];exact aN<|ay<|e J<|bc<|uD (id:=1006000) a6 J J
def apF(n:I)(b:n<256):af j 288 [cU n] (D<|bJ n.testBit 8):=by
 have a:af j 291 [cU n] (D<|bJ n.testBit 8):=by refine aD Tryz.func291 ?_;obtain⟨m,rfl⟩:∃m:Fin 256,n=m.1:=⟨⟨n,b⟩,J⟩;clear b;refine e J<|e J<|e J<|e J<|e J<|e J<|e J ?_;refine e J (bq J<|aC D ?_) (hp:=by simp only[Pr.an,Pr.h,num,eO,true_and,and_true];revert m;decide+kernel);revert m;decide+kernel
 refine aD Tryz.func288 ?_;refine e J<|L<|z J (λh=>bS)<|λ_=>ai ?_;exact aO J J a J<|bU J
def Jc(l:V (I×aH))(a:I):V (I×aH)->Prop
 |[]=>True
 | (b,c)::r=>((∃v,w b l=some v/\cK v c)\/∃E d,w b l=some (.box E d [.V (.slice none 0 0)])/\c= .box E d [.X a])/\Jc l a r
def Jc.get{l:V (I×aH)}{d:I}:∀{m:V (I×aH)},Jc l d m->∀{b c},w b m=some c->(∃v,w b l=some v/\cK v c)\/∃E f,w b l=some (.box E f [.V (.slice none 0 0)])/\c= .box E f [.X d]
 |[],_,_,_,a=>by simp[w]at a
 | (k,x)::m,hw,b,c,a=>by
  simp only[w]at a;split at a
  .rename_i g;subst g;cases a;exact hw.1
  .exact Jc.get hw.2 a
def apG f E dR{sl}{mem}{nx}{gd}{n}{m2}{d}{P}(hs:xe sl n)(hm:Jc mem f m2)(eo:iv (1000000*nx) f=ae)
  (HP:eC (1000000*d) ((f,.vec E dR [])::m2)) (BC:rG (1000000*d) n=ae:=by rfl) (B:(iv 1 d&&iv 1 f)=ae:=by rfl):Wk ⟨sl,mem,nx,gd⟩ ⟨n,(f,.vec E dR [])::m2,d,P⟩:=by
 generalize uF:(⟨sl,mem,nx,gd⟩:St)=st
 obtain rfl:sl=st.sl:=zC
 obtain rfl:mem=st.mem:=zC
 obtain rfl:nx=st.nx:=zC
 clear uF
 intro F s5 g W a h
 simp only[eG]at B
 obtain⟨B,Q⟩:=B
 have B:=cY B
 have Q:=cY Q
 have eo:=cY eo
 let R:Gh:=⟨g.H,λj=>if j=f then .slice none 0 0 else g.γ j⟩
 have l:iT (kb st) g R:=⟨cz.refl _,λj L=>by have L:j<1000000*st.nx:=L;have:j≠f:=S;simp[R,this]⟩
 have q:R.γ f= .slice none 0 0:=by simp[R]
 have N:∀f,f<F.k0->f<1000000*d/\R.γ f=F.γ0 f:=by intro j L;obtain⟨O,Y⟩:=h.iJ j L;refine⟨S,?_⟩;rw[l.γ j O];exact Y
 have hS:∀t p,St.kn ⟨n,(f,.vec E dR [])::m2,d,P⟩ (.s t)=some (.v p)->(∃v,st.kn (.s t)=some (.v v)/\a7 v p)/\∀f∈p.ar,f<1000000*d:=by intro t p e;simp only[St.kn,cd]at e;obtain⟨y,U,K⟩:=e;cases K;refine⟨?_,yR BC t p U⟩;obtain⟨v,hv,l⟩:=hs.get U;exact⟨v,mq,l⟩
 have M:∀j x,St.kn ⟨n,(f,.vec E dR [])::m2,d,P⟩ (.m j)=some (.b x)->((j=f/\x= .vec E dR [])\/(∃b,st.kn (.m j)=some (.b b)/\cK b x)\/∃D z,st.kn (.m j)=some (.b<|.box D z [.V (.slice none 0 0)])/\x= .box D z [.X f])/\(j<1000000*d/\∀i∈x.ar,i<1000000*d):=by
  intro t p e;simp only[St.kn,cd]at e;obtain⟨y,U,K⟩:=e;cases K;refine⟨?_,HP t p U⟩;simp only[w]at U;split at U
  .rename_i e;cases U;exact .inl ⟨e.symm,J⟩
  .rcases hm.get U with⟨v,hv,l⟩|⟨D,z,hv,e⟩
   .exact .inr<|.inl ⟨v,mq,l⟩
   .exact .inr<|.inr ⟨D,z,mq,e⟩
 refine⟨R,h.size,h.defers,?_,?_,?_,?_,?_,h.sub,h.below,h.le,h.fresh,N⟩
 .intro t p e;obtain⟨v,hv,Z⟩:=(hS t p e).1;exact Z.1 _ _<|bI.mono l (h.ar _ _ hv)<|h.gM t v hv
 .intro j x e;rcases(M j x e).1 with⟨rfl,rfl⟩|⟨b,u,Dg⟩|⟨D,z,u,rfl⟩
  .exact .inl ⟨q,J⟩
  .exact Dg.1 _ _ _ _<|(h.db j b u).Dk l (h.fD _ _ u) (h.ar _ _ u)<|λk C=>⟨J,λo=>rfl⟩
  .obtain⟨k,vs,rest,e1,e2,e3,e4,e5,e6⟩:=(h.db j _ u).Dk l (h.fD _ _ u) (h.ar _ _ u)<|λk C=>⟨J,λo=>rfl⟩;refine⟨k,vs,rest,e1,e2,?_,e4,e5,e6⟩;obtain⟨v,r,rfl,O,Y⟩:=e3;refine⟨v,r,J,?_,Y⟩;show v=R.γ f;rw[q];exact O
 .intro i j G b2 k e e' C F5;have I:∀i G,St.kn ⟨n,(f,.vec E dR [])::m2,d,P⟩ (.m i)=some (.b G)->cP (R.γ i)=some k->∃c,st.kn (.m i)=some (.b c)/\cP (g.γ i)=some k:=by
   intro i G e C;rcases(M i G e).1 with⟨rfl,_⟩|⟨c,A,_⟩|⟨D,z,A,_⟩
   .rw[q]at C;cases C
   .rw[l.γ i (h.fD _ _ A)]at C;exact⟨c,A,C⟩
   .rw[l.γ i (h.fD _ _ A)]at C;exact⟨_,A,C⟩
  obtain⟨c,A,J5⟩:=I i G e C;obtain⟨c',P8,oe⟩:=I j b2 e' F5;exact h.inj i j c c' k A P8 J5 oe
 .intro k y e i hi;cases k with
  |s t=>
   cases y with
   |v p=>exact(hS t p e).2 i hi
   |b x=>simp only[St.kn,cd]at e;obtain⟨_,_,K⟩:=e;cases K
  |m j=>
   cases y with
   |v p=>simp only[St.kn,cd]at e;obtain⟨_,_,K⟩:=e;cases K
   |b x=>exact(M j x e).2.2 i hi
 .intro j y e;cases y with
  |v p=>simp only[St.kn,cd]at e;obtain⟨_,_,K⟩:=e;cases K
  |b x=>exact(M j x e).2.1
section
variable{P:cT}
def apH{n}{c}{b}{d i}{f}{g}{k}{Q l:St->Prop}(m:RG P n c b d i f g k Q)(p:∀a,Q a->l a):RG P n c b d i f g k l:=λr=>by let ⟨ds,a,v,x,h2,B,C,E,F,H⟩:=m r;exact⟨ds,a,v,x,h2,B,C,E,F,p a H⟩
end
section
variable{n:I}{Q:ix}{O:vn}{sl sl':V (I×AV)}{mem mem':V (I×aH)}{nx:I}{gd gd':V (I×Bool)}{id:I}{ops:Array Oper}{draw:Bool}{y:Code}{p:Pr}{ks dd:V Ks}{i i' n0 bQ:I}
def kr(b:z5 O)(c:runs dD n nx draw ops.toList ops.toList 0 ⟨sl,mem,nx,gd⟩ .t []=([],i',⟨sl',mem',n0,gd'⟩,p,ks))(d:TJ j n y ⟨sl',mem',nx+1,[]⟩ O Q)
  (f:p:=by exact lW) (g:(!draw||rE ops.toList ks)=ae:=by kernel_rfl) (a:iv ops.size 1000=ae:=by rfl):TJ j n (.seq (.region id ops draw) y) ⟨sl,mem,nx,gd⟩ O Q:=
 p7 (NX MX b<|jI a6 c f<|F' (n6 d) g a)
def kt(b:z5 O)(c:runs dD n nx draw ops.toList ops.toList 0 ⟨sl,mem,nx,gd⟩ .t []=([],i',⟨sl',mem',n0,gd'⟩,p,ks))(d:gW n .normal ⟨sl',mem',nx+1,[]⟩ O Q)
  (f:p:=by exact lW) (g:(!draw||rE ops.toList ks)=ae:=by kernel_rfl) (a:iv ops.size 1000=ae:=by rfl):TJ j n (.region id ops draw) ⟨sl,mem,nx,gd⟩ O Q:=
 NX MX b (jI a6 c f<|F' d g a)
def Cb(c:z5 O)(a:RG j n ops draw nx 0 ops.toList ⟨sl,mem,nx,gd⟩ [] (λb=>TJ j n y b O Q)):TJ j n (.seq (.region id ops draw) y) ⟨sl,mem,nx,gd⟩ O Q:=p7<|NX MX c<|apH a λ_ a=>n6 a
def Uz(b:z5 O)(c:RG j n ops draw nx 0 ops.toList ⟨sl,mem,nx,gd⟩ [] (λa=>gW n .normal a O Q)):TJ j n (.region id ops draw) ⟨sl,mem,nx,gd⟩ O Q:=NX MX b c
end
def adx{n}{Q}{c}{f d:vn}{a:Type}{b:a->St}{g:a->Prop}{i:a->I}{x}(k:gW n .ret c d Q):gW n .ret c d (I3 b g i x f Q):=k
def UA{g:Gh}{c:C}:∀{i:V (Bool×V C)}{b:V Value},dt g (i++[(ah,[c])]) b->∃d f,b=d++[f]/\G d=G i/\dn g c f
 |[],b,k=>by obtain⟨v,r,rfl,l,a⟩:=k;have a:r=[]:=a;subst a;exact⟨[],v,J,J,l⟩
 |s::i,b,k=>by obtain⟨v,r,rfl,l,a⟩:=k;obtain⟨d,f,rfl,e,m⟩:=UA a;exact⟨v::d,f,J,by simp[e],m⟩
def apI{cs}{i a}{l}g m val(p:dt g (cs++[(ah,[.P i a])]) l)(r:bI g (.c<|.P i a) val)(v:dt m (cs++[(ah,[.P i a])]) l):bI m (.c<|.P i a) val:=by let ⟨us,w,x,H,B⟩:=UA p;let ⟨C,K,d,E,k⟩:=UA v;rw[x]at d;have n:=(List.append_inj d S).2;simp only[JW,and_true]at n;subst n;obtain⟨b,F,rfl⟩:=r;obtain⟨Q,f,rfl⟩:=B;rw[F]at f;cases f;exact k
def Jd(R:pe)(k d:I)(l:V (I×AV)):V (I×AV)->Prop
 |[]=>True
 | (b,a)::r=>(w b l=some a/\Nat.beq b d=ah/\(a.ar=[]\/(∀g c val,dt g R.caps R.ws->bI g a val->dt c R.caps R.ws->bI c a val)/\∀f∈a.ar,f<1000000*k))/\Jd R k d l r
def Jd.get{R:pe}{k d:I}{l:V (I×AV)}:∀{m:V (I×AV)},Jd R k d l m->∀c a,w c m=some a->w c l=some a/\c≠d/\(a.ar=[]\/(∀g i val,dt g R.caps R.ws->bI g a val->dt i R.caps R.ws->bI i a val)/\∀n∈a.ar,n<1000000*k)
 |[],_,_,_,b=>by simp[w]at b
 | (p,x)::m,hw,c,a,b=>by
  simp only[w]at b;split at b
  .rename_i f;subst f;cases b;exact⟨hw.1.1,λf=>(by have:=hw.1.2.1;rw[f,Mk]at this;cases this),hw.1.2.2⟩
  .exact Jd.get hw.2 c a b
def N9{n d i}{a}{f}{l m}{g b c}{p}{k}(v:runs dD n d ah a.toList (aE i a.toList) i g .t []=(f,l,b,p,k))(x:SG j n a d l b m c)
  (B:p:=by first|trivial| (simp only[Pr.an,Pr.h,num,eO,true_and,and_true];first|done|omega)| (simp[Pr.an,Pr.h,num,eO];done)| (simp[Pr.an,Pr.h,num,eO];omega)):SG j n a d i g m c:=
 (ac' a6 _ i g .t [] v B (λq o r=>by rw[rA]at r;rw[<-C3];exact r)).1 T x
def apJ{n m i p}{a}{d f:I}{args}{c}{v}{pos}{g}{k b}{vs}{r}(x:a[i]? =some ⟨some d,.call ⟨.value<|.func f,args,c⟩,v,pos,g,none⟩)(B:km k args.toList=some vs)(E:af j f vs r)(F:SG j n a m (i+1) (k.put d r) p b)(H:fE vs=[]:=by rfl)(l:Nat.blt d n=ae:=by rfl):SG j n a m i k p b:=
 .cons (P1 x J J (cY l) J B H E) F
def apK{n p i r}{a}f{b c}{l}{mem}{v}{x}{d}(E:w f l=some (.c<|.B b))(g:b=c)(F:SG j n a p i ⟨(f,.c<|.B c)::l,mem,v,(f,c)::x⟩ r d):SG j n a p i ⟨l,mem,v,x⟩ r d:=F.eq (by
 subst g;funext k;cases k with
 |s C=>
  by_cases g:f=C
  .subst g;simp[St.kn,w,E]
  .simp[St.kn,w,g]
 |m id=>rfl)
def ady n:(fW n).Pairwise (λx a=>bJ x.testBit n<bJ a.testBit n\/(bJ x.testBit n=bJ a.testBit n/\x<a)):=by
 have one:∀s,(vg n s).Pairwise (λx a=>bJ x.testBit n<bJ a.testBit n\/(bJ x.testBit n=bJ a.testBit n/\x<a)):=λs=>by refine Ea ?_ (List.Pairwise.filter _ (FA (n:=2^n)):(vg n s).Pairwise (·<·));intro x a b c f;simp only[vg,sJ,beq_iff_eq]at b c;omega
 have d:∀k,((be k).flatMap λs=>vg n<|s+1).Pairwise (λx a=>bJ x.testBit n<bJ a.testBit n\/(bJ x.testBit n=bJ a.testBit n/\x<a)):=by
  intro k;induction k with
  |zero=>exact .nil
  |succ k g=>
   rw[nE,uC]
   refine tD.2 ⟨g,?_,λx b a c=>?_⟩
   .simp only[mm,NO,iW];exact one<|k+1
   .simp only[jF,jO,mm,NO,iW,vg,sJ,beq_iff_eq]at b c;let ⟨s,i,h2,l⟩:=b;left;omega
 exact d _
def apL{n x}{a:I->Bool}(c:x∈fW n)(d:a x=ae)(k:∀b∈fW n,bJ b.testBit n<bJ x.testBit n\/(bJ b.testBit n=bJ x.testBit n/\b<x)->a b=ah):(fW n).find? a=some x:=by
 cases f:(fW n).find? a with
 |none=>exact absurd d (by simpa using EN.1 f x c)
 |some y=>
  let ⟨l,us,ws,h2,m⟩:=Ud.1 f
  have g:=ady n
  rw[h2]at c g
  rcases b8.1 c with e|e
  .have:=m x e;rw[d]at this;cases this
  .rcases df.1 e with e|e
   .rw[e]
   .have p:=(im.1 (tD.1 g).2.1).1 x e;have i:=k y (by rw[h2];simp) p;rw[l]at i;cases i
def apM{x n}(b:x<2^n)(f:n<=8):bJ x.testBit 8=bJ x.testBit n:=by
 have a:∀d,bJ x.testBit (n+d)=bJ x.testBit n:=λd=>by
  induction d with
  |zero=>rfl
  |succ d c=>rw[<-qv,bJ,c,Nat.testBit_lt_two_pow<|jD b<|fG A S];simp
 have:=a<|8-n;rwa[(S:n+(8-n)=8)]at this
abbrev vo:V (I×C):=[(3,.P 1000000 0),(4,.P 1001000 0),(5,.P 1002000 0),(7,.P 2000000 0)]
abbrev N':V (Bool×V C):=[(ah,[.P 4002000 0])]
abbrev mC(n:I)(a:V Z)(l:V (V Z))(m:Z)(b:V (V Z)):V (I×aH):=[(4002000,.box 3 0 [.I .i64 n]),(1000000,.box 57 0 [.S .z a]),(1001000,.box 61 0 [.S (.sl .z) l]),(1002000,.box 44 0<|av .z m),(2000000,.box 61 0 [.X 3000000]),(3000000,.vec 57 (.sl .z) b)]
abbrev n8:I×aH:=(0,.fX 0 [] (q7 vo++N'))
abbrev Oa(R:pe):AV:= .c<|.V<|.func (.yield R.l) #[] #[]
def adz{R:pe}{bo}{c n}{Mo}{i}{d}(r:i= .normal\/i= .ret)(f:1<=d.nx)(m:d.mem=Mo):gW n i d (R.O<|n7 bo c) (R.Q bo c Mo):=by intro F H x B g W a k p;have l:B=[]:=p.2.2.2.1;subst l;refine⟨r,⟨g,d.nx,f,?_⟩,p⟩;let ⟨sl,mem,nx,gd⟩:=d;simp only at m f;subst m;exact bu.frame (F:=F.dr []) (n':=(F.dr []).n) (ds':=[]) (rd':=(F.dr []).rd) k k.size k.defers (λt v C=>by simp[w]at C)<|λK b E=>E
def apN{R:pe}(ok:R.Ok)(H:R.caps=q7 vo++N')(Ca:R.S0=p8 vo){n:I}{a:V Z}{l:V (V Z)}{m:Z}{fd:V (V Z)}(hn:n<=8){good:I->Bool}{Mo:I->V (I×aH)}{nxr:I}(apO:nxr=30)
  (yl:∀x id b,w id (Mo x)=some b->id≠0/\id<5000000/\∀fQ∈b.ar,fQ<5000000)
  (rnd:∀x,x∈fW n->∃B:St,1<=B.nx/\TJ j R.n0 R.j3 ⟨(R.p,cU x)::R.S0,n8::mC n a l m fd,nxr,[]⟩ wH (λF U a W=>U= .normal/\∃g,bu (F.dr []) (kb B) B.kn g W a)/\TJ j R.n0 R.bd B wH (I' (!good x) 1<|n8::if good x then Mo x else mC n a l m fd))
  {cb:Code} (vD:Tryz.f287.body=some cb):
  TJ j 27 cb ⟨[(0,Oa R),(1,.c<|.P 4002000 0)],n8::mC n a l m fd,5,[]⟩ (R.O none) (R.Q ((fW n).find? good).isNone 1<|n8::match(fW n).find? good with|none=>mC n a l m fd|some BN=>Mo BN):=by
 obtain rfl:=Di<|(rfl:Tryz.f287.body=some _).symm.trans vD
 have X:=R.ada none
 refine kr X J<|tU<|I7 (α:=I) (λk=>⟨[(0,Oa R),(1,.c<|.P 4002000 0),(3,D k)],n8::mC n a l m fd,6,[]⟩) (λk=>1<=k/\k<=n/2+1/\∀f∈fW n,bJ f.testBit n<k->good f=ah) (λk=>n/2+1-k) 1 ⟨a8 _,S,λf r h=>by have:=(si.1 r).2.1;omega⟩ aM ?_
 rintro k ⟨s1,s2,s3⟩
 refine p7<|kr X J<|wG J (λh=>?_)<|λh=>?_
 .have h:k<=n/2:=by have h:(k:Z)<=UB (n:Z) 2:=az h;have U:UB (n:Z) 2=((n/2:I):Z):=rfl;omega
  have r7:2^n<=256:=cQ (fG A hn) A;refine B7<|n6<|p7<|tU<|kr X J<|tU<|I7 (α:=I) (λx=>⟨[(0,Oa R),(1,.c<|.P 4002000 0),(3,D k),(12,cU (2^n:I)),(13,cU x)],n8::mC n a l m fd,8,[]⟩) (λx=>x<=2^n/\∀f∈fW n,bJ f.testBit n=k->f<x->good f=ah) (λx=>2^n-x) 0 ⟨aW _,λf _ _ h=>absurd h S⟩ (wk ⟨sR J,sR J,sR J,sE J ?_,sR J,T⟩<|jv J) ?_
  .have L:min (ad<|(n:Z)) (cr .u64)=n:=by rw[aV];show min n 64=n;omega
   refine bA (show ao .u64 (1*2^(min (ad<|(n:Z))<|cr .u64))=((2^n:I):Z)from ?_);rw[L,j7];have q:(2:Z)^n=((2^n:I):Z):=by rw[ot];rfl
   rw[q];exact wrap_u64 _ (nM _) (by have:((2^n:I):Z)<=256:=ID.2 r7;omega)
  rintro x ⟨x1,x2⟩;refine kr X J<|p7<|wG J (λE=>?_)<|λE=>?_
  .have E:x<2^n:=by have E:(x:Z)<((2^n:I):Z):=az E;omega
   have K:=apF x S;have hc8:=apM E hn;refine B7<|n6<|p7<|tU<|kr X J ?_;by_cases N:bJ x.testBit n=k
   .have Y:x∈fW n:=si.2 ⟨E,S,S⟩;let ⟨B,hB1,hA,hB⟩:=rnd x Y;have t:af j 288 [cU x] (D k):=by rw[<-N,<-hc8];exact K
    have hd:((k:Z)==(k:Z))=ae:=ax;refine p7<|ao2 (i:=7) (d:=23) (j:=21) (x:=22) (v:=cU x) (M:=n8::mC n a l m fd) (Mo:=n8::if good x then Mo x else mC n a l m fd) (xid:=1) (stB:=B) (nxr:=nxr) (bo:= !good x) (slk:=[(0,Oa R),(1,.c<|.P 4002000 0),(3,D k),(12,cU (2^n:I)),(13,cU x),(20,cB ae)]) (gd1:=[(20,ae)]) ok J J J (.inr ⟨4,ae,20,J,J,J⟩) (N9 J<|apJ J J t<|N9 J<|apK 20 J hd<|N9 J<|.nil J) J J J A J (by rw[H];rfl) (by rw[H];rfl) (Jd.get ⟨⟨J,J,.inl J⟩,⟨J,J,.inr ⟨?_,?_⟩⟩,⟨J,J,.inl J⟩,⟨J,J,.inl J⟩,⟨J,J,.inl J⟩,⟨J,J,.inl J⟩,T⟩) ?_ ?_ ?_ ?_ hB1 ?_ hA hB (N9 J<|.nil J) ?_
    .intro g g' val h hv h';rw[H]at h h';exact apI (cs:=q7 vo) g g' val h hv h'
    .intro id eo;have:id=4002000:=by simpa[AV.ar,C.ar]using eo
     subst this;show 4002000<1000000*10;decide
    .intro id b u;show id<1000000*10/\∀fQ∈b.ar,fQ<1000000*10;by_cases hg:good x=ae
     .rw[s hg]at u;simp only[w]at u;split at u
      .rename_i U;cases u;subst U;exact⟨A,λfQ hj=>Kg (b:=10000000) (l:=(aH.fX 0 [] (q7 vo++N')).ar) J fQ hj⟩
      .have:=yl x id b u;exact⟨S,λfQ hj=>by have:=this.2.2 fQ hj;omega⟩
     .rw[M hg]at u;exact Kh (b:=10000000) (l:=n8::mC n a l m fd) J id b u
    .show 1<=10;decide
    .exact cY J
    .rw[apO];show 11<=30;decide
    .rw[Ca];exact yR (b:=10000000) (l:=p8 vo) J
    .cases hg:good x with
     |false=>
      refine n6<|wG J (λq=>by cases q)<|λ_=>B7<|z6<|n6<|kt X J<|B9 (x+1) ⟨E,λf r G iD=>?_⟩ (S:2^n-(x+1)<2^n-x)<|wk ⟨sR J,sR J,sR J,sR J,sE J ?_,T⟩<|jv J
      .by_cases U:f=x
       .rw[U];exact hg
       .exact x2 f r G S
      .exact bA<|show ao .u64 ((x:Z)+1)=((x+1:I):Z)from(wrap_u64 _ S S).trans S
     |true=>
      have y:(fW n).find? good=some x:=apL Y hg λf r h=>by
       rcases h with h|h
       .exact s3 f r S
       .exact x2 f r S h.2
      rw[y]
      refine n6 (wG J (λ_=>ac3 ?_)<|λq=>by cases q)
      refine EO<|ac5<|adx<|EO<|EO<|ac5<|adx<|EO ?_
      exact adz (bo:=ah) (.inr J) (A:1<=11) J
   .refine Cb X (rc J J K<|rg 20 J J (λL=>?_)<|λL=>o J<|wG J (λq=>by cases q)<|λ_=>B7<|z6<|n6<|kt X J<|B9 (x+1) ⟨E,λf r G iD=>?_⟩ (S:2^n-(x+1)<2^n-x)<|wk ⟨sR J,sR J,sR J,sR J,sE J ?_,T⟩<|jv J)
    .exfalso;have L:((bJ x.testBit 8:I):Z)=(k:Z):=eq_of_beq L;omega
    .by_cases U:f=x
     .rw[U]at G;exact absurd G N
     .exact x2 f r G S
    .exact bA<|show ao .u64 ((x:Z)+1)=((x+1:I):Z)from(wrap_u64 _ S S).trans S
  .have E:x=2^n:=by have E:¬(x:Z)<((2^n:I):Z):=aL E;omega
   subst E;refine I4<|I5<|NY<|I6<|z6<|n6<|kt X J<|B9 (k+1) ⟨S,S,λf r G=>?_⟩ (S:n/2+1-(k+1)<n/2+1-k) aM;by_cases U:bJ f.testBit n=k
   .exact x2 f r U (si.1 r).1
   .exact s3 f r S
 .have h:¬k<=n/2:=by have h:¬(k:Z)<=UB (n:Z) 2:=aL h;have U:UB (n:Z) 2=((n/2:I):Z):=rfl;omega
  have Dd:∀f∈fW n,good f=ah:=λf r=>s3 f r (by have:=(si.1 r).2.2;omega)
  have z:(fW n).find? good=none:=EN.2 λf r=>by rw[Dd f r];decide
  rw[z];exact I4<|I5<|NY<|I6<|adz (bo:=ae) (.inl J) (A:1<=7) J
def adA(x i:I)(k:x<256)(l:i<64):(ao .u64 ((iq (cr .u64) ((x:Z).fdiv<|2^(min (ad<|(i:Z))<|cr .u64))&&& iq (cr .u64) 1).toNat:Z)==1)=mO x i:=by
 have a:min (ad<|(i:Z)) (cr .u64)=i:=by rw[aV];show min i 64=i;omega
 have b:(x:Z).fdiv (2^i)=((x/2^i:I):Z):=by
  have c:(2:Z)^i=((2^i:I):Z):=by rw[ot];rfl
  rw[c,zh _<|nM _];rfl
 rw[a,b];have m:x/2^i<=x:=A8 _ _;rw[adB];generalize x/2^i=y at*;have d:(iq (cr .u64) ((y:I):Z)&&& iq (cr .u64) 1).toNat=y%2:=by
  rw[BitVec.toNat_and];have f:(iq (cr .u64) ((y:I):Z)).toNat=y:=by rw[BitVec.toNat_ofInt];show ad (((y:I):Z)%((2^64:I):Z))=_;omega
  have g:(iq (cr .u64) 1).toNat=1:=rfl;rw[f,g,Nat.and_one_is_mod]
 rw[d,wrap_u64 _ (nM _) S];by_cases h:y%2=1
 .rw[h];rfl
 .have:y%2=0:=by omega
  rw[this];rfl
def adC(b:I->Bool) l{a}(c:a<G l):bg b 0 (y (a+1) l)=bg b 0 (y a l)++(if b a then[l.getD a []]else[]):=by rw[FV c,T0,dU,il,pj S,bg,bg];rw[aF,bD c];rfl
structure ym(a:V Z)(l:V (V Z))(m:Z)(w:I):Prop where
 am:aG a
 la:a.length<=100
 ln:l.length<=8
 lm:∀f∈l,aG f/\f.length<=100
 hm:1<m
 w1:w<=40000
 w0:1<=w
 mB:aw w m
 aB:∀i,aw w (a.getD i 0)
 lB:∀f∈l,∀i,aw w (f.getD i 0)
def ym.tm{a}{l}{m}{B}(d:ym a l m B)(b:I->Bool) n:aG (iG m [1] (bg b 0<|y n l))/\G (iG m [1] (bg b 0<|y n l))<=900/\∀i,aw B (Y (iG m [1] (bg b 0<|y n l)) i 0):=by
 have c:∀f∈bg b 0 (y n l),f∈l:=λf p=>Ai<|tS p
 let ⟨E,h2⟩:=wF d.hm yi (λf p=>(d.lm f<|c f p).1:∀f∈bg b 0 (y n l),aG f);refine⟨E,?_,?_⟩
 .have k:∀L:V (V Z),(∀f∈L,G f<=100)->b7 L<=99*G L:=by
   intro L;induction L with
   |nil=>intro _;exact aW _
   |cons f L r=>
    intro C
    have:=r λx hx=>C x iB
    have:=C f ax
    rw[b7,fu];omega
  have K:=k _ λf p=>(d.lm f<|c f p).2
  have P:G (bg b 0<|y n l)<=G l:=by
   have v:∀(L:V (V Z))(i:I),G (bg b i L)<=G L:=by
    intro L;induction L with
    |nil=>intro i;exact a8 _
    |cons f L r=>
     intro i
     have:=r<|i+1
     rw[bg]
     split
     .simp;omega
     .simp;omega
   exact cQ (v _ _) v7
  have:=d.ln;rw[h2];show 1+_<=_;omega
 .have k:∀(L:V (V Z))(g:V Z),(∀i,aw B (Y g i 0))->∀i,aw B (Y (iG m g L) i 0):=by
   intro L;induction L with
   |nil=>intro g F;exact F
   |cons f L r=>
    intro g _
    exact r _ λi=>by let ⟨r1,H⟩:=Tv g f (show 0<m by have:=d.hm;omega) i;exact aw.lt r1 H d.mB
  refine k _ _ λi=>?_
  match i with
  |0=>exact(aw.one (a:=1) A).le d.w0
  |i+1=>exact aw.zero _
def adD{n}{l}{c}{m}{d}{Mo}(r:l=if m then .normal else .exit d)(f:1<=c.nx)(p:c.mem=Mo):gW n l c wH (I' m d Mo):=by intro F K x B g W a i C;have k:B=[]:=C;subst k;refine⟨r,g,c.nx,f,?_⟩;let ⟨sl,mem,nx,gd⟩:=c;simp only at p f;subst p;exact bu.frame (F:=F.dr []) (n':=(F.dr []).n) (ds':=[]) (rd':=(F.dr []).rd) i i.size i.defers (λt v E=>by simp[w]at E)<|λP b H=>H
def ER:Code->Option (Code×Code)
 | .rangeFunc _ _ x a=>some (x,a)
 | .seq x a=>match ER x with
  |some b=>some b
  |none=>ER a
 | .block _ x=>ER x
 | .loop x=>ER x
 | .scope x=>ER x
 |_=>none
def rfC(c:Option Code):Option (Code×Code):=match c with
 |some c=>ER c
 |none=>none
open Classical in
noncomputable def q8(a:V Z)(l:V (V Z))(m:Z)(b:I):Bool:=decide<|Rx.zx (gS m l b.testBit)∣Rx.zx a
open Classical in
def apS{a}{l}{m}{b}(c:Rx.zx (gS m l b.testBit)∣Rx.zx a):q8 a l m b=ae:=jU c
open Classical in
def apT{a}{l}{m}{b}(c:¬Rx.zx (gS m l b.testBit)∣Rx.zx a):q8 a l m b=ah:=iX c
noncomputable abbrev mF(n:I)(a:V Z)(l:V (V Z))(m:Z)(c:V (V Z))(b:I):V (I×aH):=mC n (j0 a<|gS m l b.testBit) (bg (λi=> !b.testBit i) 0 l) m<|c++[gS m l b.testBit]
def apU{a}{l}{m}{r}(h:ym a l m r){fd}(hfd:G fd<=1000){x:I}(hx:x<256){R bd}(v:rfC Tryz.f257.body=some (R,bd)):
  TJ Tryz.prog 75 bd ⟨[(8,cU x),(3,.c<|.P 1000000 0),(4,.c<|.P 1001000 0),(5,.c<|.P 1002000 0),(7,.c<|.P 2000000 0)],n8::mC (G l) a l m fd,31,[]⟩ wH (I' (!q8 a l m x) 1<|n8::if q8 a l m x then mF (G l) a l m fd x else mC (G l) a l m fd):=by
 let ⟨O,eb⟩:=Prod.mk.inj<|Di<|(rfl:rfC Tryz.f257.body=some (_,_)).symm.trans v
 subst O eb
 clear v
 have b:=adb
 have hln:=h.ln
 have g:0<m:=by have:=h.hm;omega
 refine tU<|Cb b<|rc J J (nL 1 A A)<|gR .z [1] J J (o J<|kr b J<|p7<|kr b J<|tU<|I7 (α:=I) (λj=>⟨[(3,.c<|.P 1000000 0),(4,.c<|.P 1001000 0),(5,.c<|.P 1002000 0),(7,.c<|.P 2000000 0),(8,cU x),(9,.c<|.X 31001000),(10,.c<|.X 34000000),(22,N (.sl .z) l),(23,D<|G l),(24,D j)],(34000000,.vec 57 (.sl .z)<|bg (λi=> !x.testBit i) 0<|y j l)::(31001000,.vec 44 .z<|iG m [1] (bg x.testBit 0<|y j l))::n8::mC (G l) a l m fd,35,[]⟩) (λj=>j<=G l) (λj=>G l-j) 0 (aW _) ?_ ?_)
 .exact r6 34000000 57 (.sl .z) ⟨.inl<|sR J,.inl<|sR J,.inl<|sR J,.inl<|sR J,.inl<|sR J,.inl<|sR J,.inr ⟨J,J⟩,.inl<|sR J,.inl<|sR J,.inl<|sR J,T⟩ (jv J) J<|eC.of J
 intro j hj
 refine kr b J<|p7<|wG J (λh1=>?_)<|λh1=>?_
 .have h1:j<G l:=by have h1:(j:Z)<(G l:Z):=az h1;omega
  have B:l.getD j []∈l:=z8;let ⟨t1,t2,t3⟩:=h.tm x.testBit j;have U:=h.lm _ B;have u:ad ((j:Z))=j:=aV j;have C:=adC x.testBit l h1;have E:bg (λi=> !x.testBit i) 0 (y (j+1) l)=bg (λi=> !x.testBit i) 0 (y j l)++(if(!x.testBit j)=ae then[l.getD j []]else[]):=adC (λi=> !x.testBit i) l h1;refine B7<|n6<|p7<|tU<|kr b J<|kr b J<|wG J (λk=>?_)<|λk=>?_
  .have k:mO x j=ae:=by rw[<-adA x j hx S];exact k
   have F:lK Tryz.prog 161 [N .z (iG m [1] (bg x.testBit 0<|y j l)),N .z<|l.getD (ad<|(j:Z)) [],aZ m] 44 .z (nW (iG m [1] (bg x.testBit 0<|y j l)) (l.getD j []) m):=by rw[u];exact apE _ _ m r r (by have:=h.w1;omega) S S t1.1 U.1.1 g t3 (h.lB _ B)<|h.mB.le S
   refine B8 (oN 31001000 J)<|Uz b<|uE J J F<|o J<|z6<|n6<|kt b J<|B9 (j+1) h1 SQ<|Wk.trans (wk (st':=⟨[(3,.c<|.P 1000000 0),(4,.c<|.P 1001000 0),(5,.c<|.P 1002000 0),(7,.c<|.P 2000000 0),(8,cU x),(9,.c<|.X 38003000),(10,.c<|.X 34000000),(22,N (.sl .z) l),(23,D<|G l),(24,D (j+1:I))],[(34000000,.vec 57 (.sl .z)<|bg (λi=> !x.testBit i) 0<|y (j+1) l),(38003000,.vec 44 .z<|iG m [1] (bg x.testBit 0<|y (j+1) l)),n8,(4002000,.box 3 0 [.I .i64 (G l)]),(1000000,.box 57 0 [.S .z a]),(1001000,.box 61 0 [.S (.sl .z) l]),(1002000,.box 44 0<|av .z m),(2000000,.box 61 0 [.X 3000000]),(3000000,.vec 57 (.sl .z) fd)],41,[]⟩) (aS J) ⟨bE J ?_,bE J ?_,bR J,bR J,bR J,bR J,bR J,bR J,bR J,T⟩)<|Wk.trans (fp 31001000 38003000 J J J) aM
   .rw[E,k];simp;rfl
   .rw[C,k,s J,T1];rfl
  .have k:mO x j=ah:=by rw[<-adA x j hx S];exact k
   have Gn:G (bg (λi=> !x.testBit i) 0<|y j l)<=8:=by
    have H:∀(L:V (V Z))(i:I),G (bg (λi=> !x.testBit i) i L)<=G L:=by
     intro L;induction L with
     |nil=>intro i;exact a8 _
     |cons f L ih=>
      intro i
      have:=ih<|i+1
      rw[bg]
      split
      .simp;omega
      .simp;omega
    exact cQ (H _ _) v7
   refine Uz b<|rl (.sl .z) [l.getD (ad<|(j:Z)) []] J J (ra J J J J J J J J J ?_ ?_<|o J<|z6<|n6<|kt b J<|B9 (j+1) h1 SQ<|Wk.trans (wk (st':=⟨[(3,.c<|.P 1000000 0),(4,.c<|.P 1001000 0),(5,.c<|.P 1002000 0),(7,.c<|.P 2000000 0),(8,cU x),(9,.c<|.X 31001000),(10,.c<|.X 38003000),(22,N (.sl .z) l),(23,D<|G l),(24,D (j+1:I))],[(38003000,.vec 57 (.sl .z)<|bg (λi=> !x.testBit i) 0<|y (j+1) l),(31001000,.vec 44 .z<|iG m [1] (bg x.testBit 0<|y (j+1) l)),n8,(4002000,.box 3 0 [.I .i64 (G l)]),(1000000,.box 57 0 [.S .z a]),(1001000,.box 61 0 [.S (.sl .z) l]),(1002000,.box 44 0<|av .z m),(2000000,.box 61 0 [.X 3000000]),(3000000,.vec 57 (.sl .z) fd)],41,[]⟩) (aS J) ⟨bE J ?_,bE J ?_,bR J,bR J,bR J,bR J,bR J,bR J,bR J,T⟩)<|Wk.trans (fp 34000000 38003000 J J J) aM)
   .show(G (bg (λi=> !x.testBit i) 0<|y j l)+1+(G (bg (λi=> !x.testBit i) 0<|y j l)+1)/4+192)*24<=_;omega
   .show(G (bg (λi=> !x.testBit i) 0<|y j l)+1)*1<=_;omega
   .rw[E,k,u];rfl
   .rw[C,k];simp
 .have h1:j=G l:=by have h1:¬(j:Z)<(G l:Z):=aL h1;omega
  subst h1;let ⟨t1,t2,t3⟩:=h.tm x.testBit<|G l;rw[eE]at t1 t2 t3⊢;have n:(iG m [1] (bg x.testBit 0 l)).map (cp · m)=gS m l x.testBit:=rfl;generalize iG m [1] (bg x.testBit 0 l)=d at*;generalize K:bg (λi=> !x.testBit i) 0 l=yf at*;refine I4<|I5<|NY<|I6<|n6 ?_;refine p7<|kr b J<|tU<|I7 (α:=I) (λi=>⟨[(3,.c<|.P 1000000 0),(4,.c<|.P 1001000 0),(5,.c<|.P 1002000 0),(7,.c<|.P 2000000 0),(9,.c<|.X 31001000),(10,.c<|.X 34000000),(44,D<|G d),(45,D i)],(34000000,.vec 57 (.sl .z) yf)::(31001000,.vec 44 .z<|se d m i)::n8::mC (G l) a l m fd,37,[]⟩) (λi=>i<=G d) (λi=>G d-i) 0 (aW _) (wk (aS J) ⟨bR J,bE J ?_,bR J,bR J,bR J,bR J,bR J,bR J,bR J,T⟩) ?_
  .rw[acg]
  intro i hi;refine kr b J<|p7<|wG J (λh1=>?_)<|λh1=>?_
  .have h1:i<G d:=by have h1:(i:Z)<(G d:Z):=az h1;omega
   have W:=ve d m i;have hg:Y (se d m i) (ad<|(i:Z)) 0=Y d i 0:=by rw[aV,EK _ _ _ h1,M S]
   have e:af Tryz.prog 164 [aZ (Y (se d m i) (ad<|(i:Z)) 0),aZ m] (aZ<|cp (Y d i 0) m):=by rw[hg];exact abV _ m r (by have:=h.w1;omega) g ((t3 i).sm<|by have:=h.w1;omega) h.mB
   refine B7<|n6<|p7<|tU<|kr b J<|Uz b<|rc J J e (hp:=ak)<|jx (T:= .z) (cp (Y d i 0) m) J J J J J ?_<|o J<|z6<|n6<|kt b J<|B9 (i+1) h1 (S:G d-(i+1)<G d-i)<|wk (aS J) ⟨bR J,bE J ?_,bR J,bR J,bR J,bR J,bR J,bR J,bR J,T⟩
   .show ad ((i:Z))<G (se d m i);rw[aV,W];exact h1
   .refine aC (aH.vec 44 .z) ?_;rw[aV];exact ach d m i h1
  .have h1:i=G d:=by have h1:¬(i:Z)<(G d:Z):=aL h1;omega
   subst h1;rw[aci,n];refine I4<|I5<|NY<|I6<|n6 ?_;have q:aG (gS m l x.testBit):=by rw[<-n];exact wE h.hm t1
   have mX:G (gS m l x.testBit)<=900:=by rw[<-n,cL];exact t2
   have t:∀i,aw r (Y (gS m l x.testBit) i 0):=λi=>by rw[<-n,m0 _ g];exact EE g h.mB
   have p:=aoN h.am q h.la S (by have:=h.w1;omega:r<=100000) (by have:=h.w1;omega:r<=100000) h.aB t;subst K;by_cases Q:Rx.zx (gS m l x.testBit)∣Rx.zx a
   .rw[show q8 a l m x=ae from apS Q];rw[ac1 Q]at p;refine B8 (oN 31001000 J)<|Cb b<|rc J J p<|o J<|kr b J<|wG J (λ_=>?_)<|λh=>bS;refine B8 (oN 34000000 J) (Cb b<|rl (.sl .z) [gS m l x.testBit] J J (ra J J J J J J J J J ?_ ?_<|Ed a6 J J J J J (Nat.lt_of_sub_eq_succ J)<|o J<|kr b J<|I4<|ac6 ?_))
    .show(G fd+1+(G fd+1)/4+192)*24<=_;omega
    .show(G fd+1)*1<=_;omega
    exact ac4 (st':=⟨[],n8::mF (G l) a l m fd x,42,[]⟩) (wi (mw 3000000 40003000) T ⟨bE J J,bE J J,bE J J,bE J J,bE J J,bE J J,bE J J,T⟩ J (Eo J)<|eC.of J)<|adD J (A:1<=42) J
   .rw[show q8 a l m x=ah from apT Q];rw[Ul Q]at p;refine B8 (oN 31001000 J)<|Cb b<|rc J J p<|o J<|kr b J<|wG J (λh=>bS)<|λ_=>B7<|z6<|ac4 (st':=⟨[],n8::mC (G l) a l m fd,41,[]⟩) aM<|adD J (A:1<=41) J
section
variable{P:cT}{tt:TT}
def apV{n}{p}{a}{g i d}{f}{first b}{ty}{pos}{E}{H}{r}{mem}{v}{B}{R}{Q:St->Prop}{U W}
  (hf:qC ⟨r,mem,v,B⟩ first.toList=some U) (hc:qC ⟨r,mem,v,B⟩ b.toList=some W)
  (l:∀k,RG P n p a g (i+1) H ⟨(d,.c<|.X<|1000000*g+1000*i)::r,(1000000*g+1000*i,.fX f U W)::mem,v,B⟩ (R++[k]) Q) (F:Nat.blt d n=ae:=by rfl):
  RG P n p a g i (⟨some d,.makeFunc (.func f) first b,ty,pos,E,none⟩::H) ⟨r,mem,v,B⟩ R Q:=
 adv (k:=(_,_)) (λK=>(aiu K J J (cY F) J hf hc<|1000000*g+1000*i).Wz ⟨a8 _,by show _<1000000*g+1000*(i+1);omega⟩) (λo C=>by
  let ⟨x,_,l⟩:=jF.1 C;exact gw _ x o l) (by
   funext key;cases key with
   |s t=>
    by_cases e:d=t
    .subst e;simp[St.kn,w,dB,bf]
    .simp[St.kn,w,dB,bf,e]
   |m j=>
    by_cases e:1000000*g+1000*i=j
    .subst e;simp[St.kn,w,dB,bf]
    .simp[St.kn,w,dB,bf,e]) (λ_ l=>l) (λ_ l=>l) (l _)
def apW{l}{R m:Ending->World->Prop}(g:∀b f,R b f->m b f){b}{a}{f}(d:bodyPost P l R b a f):bodyPost P l m b a f:=by
 cases b with
 |normal=>let ⟨i,v,h2,k⟩:=d;exact⟨i,v,h2,g _ _ k⟩
 |ret=>let ⟨i,v,h2,k⟩:=d;exact⟨i,v,h2,g _ _ k⟩
 |panic c=>exact⟨d.1,g _ _ d.2⟩
 |outgrown=>exact g _ _ d
 |_=>exact d
def adG(P:cT)(b:Func)(r:AV)(c:V (I×aH)):ix:=λF e a W=>bodyPost P b (λe d=>∃v g,e= .returned v/\bI g r v/\bu F (λ_=>True) (St.kn ⟨[],c,0,[]⟩) g d {tmps:=Uy F.n undef,defers:=[]}) e a W
def apX(f:cN P tt=ae){n}{i}{x}{B}{r}(E:oK tt i B=some r)(l:x.results=B.toArray:=by rfl):fw n .ret i (adG P x r i.mem):=by intro F C g W a h;let ⟨u,hu,c⟩:=AG f h l E;refine⟨h.defers.trans C.ds,u,hu,u,g,J,c,ax,C.ds.symm,?_,λd b H=>h.db d b H,λd m b K k Q R=>h.inj d m b K k Q R,λ_ _ _ _ _=>trivial,λ_ _ _=>trivial,h.sub,h.below,h.le,h.fresh,λd p=>⟨T,(h.iJ d p).2⟩⟩;intro t v U;simp[St.kn,w]at U
def apY(E:I->I){n}{f}{fn}{c}{vs}{k k'}{r}{fm0 fm}(hf:P.funcs[f]? =some fn)(hb:fn.body=some c)(hN:fn.ntmps=n)(hle:iv (G vs) n=ae)(y':fE vs=[])(yU:(fn.name != "runtime.NumGoroutine")=ae)
  (Q:TR P n c ⟨k8 0 vs,[],0,[]⟩ (adG P fn (HI E r) fm0)) (pz:k<=k') (hri:∀d∈r.ar,k<=d/\d<k') (R:∀d b,w d fm=some b->w (E d) fm0=some (BA E b)/\(k<=d/\d<k')/\∀U∈b.ar,k<=U/\U<k')
  (apZ:∀d i,(w d fm).isSome=ae->(w i fm).isSome=ae->E d=E i->d=i):CX P f vs [] k r fm k':=by
 refine⟨C9,pz,?_⟩
 intro F g W K hn xq p
 have D:ju g vs K:=aoO vs K 0 K xq (λU hj=>ax) (λt v Z=>p.gM t v<|by simp[St.kn,Z])
 have z:ju ⟨g.H,jc⟩ vs K:=D.iw y'
 refine calls_of_wp hf hb ?_
 have hle:=cY hle
 refine wp_mono (Q {w0:=W,H0:=g.H,n:=n} ⟨J,aW _,J,J⟩ ⟨g.H,jc⟩ W _ ⟨?_,J,?_,?_,?_,?_,?_,p.sub,⟨J,J,J,a8 _,λ_ _ _=>rfl⟩,cz.refl _,λ_ _ _ _=>rfl,λ_ Q=>absurd Q<|yV _⟩)<|λe a W' hq=>?_
 .simp[hN];omega
 .intro t v Z;simp only[St.kn,cd]at Z;obtain⟨x,X,B⟩:=Z;cases B;obtain⟨_,u,hu,hr,_⟩:=oL vs K 0 z t v X;have T:K[t]? =some u:=AH;have iD:t<G K:=(uv.1 T).1;have:(K.toArray++Uy (fn.ntmps-K.toArray.size) undef).getD t undef=u:=by rw[ux,yW C'];simp[T]
  rw[this];exact hr
 .intro d b e;simp[St.kn,w]at e
 .intro d i b q k e;simp[St.kn,w]at e
 .intro k x e d l;cases k with
  |m U=>simp[St.kn,w]at e
  |s t=>
   simp only[St.kn,cd]at e
   obtain⟨y,hy,B⟩:=e
   subst B
   obtain⟨_,u,_,_,h6⟩:=oL vs K 0 z t y hy
   have:=h6 d l
   rw[y']at this
   cases this
 .intro d x e;simp[St.kn,w]at e
 refine apW ?_ hq
 rintro e W' ⟨v,V,rfl,hv,C⟩
 let O:Gh:=⟨V.H,λd=>if d<k then g.γ d else V.γ (E d)⟩
 have A:iT (λd=>k<=d) ⟨V.H,λd=>V.γ<|E d⟩ O:=⟨cz.refl _,λd l=>by show(if d<k then _ else _)=_;rw[M S]⟩
 have Y:∀d b,(St.kn ⟨[(0,r)],fm,0,[]⟩) (.m d)=some (.b b)->w d fm=some b:=λd b e=>by simp only[St.kn,cd]at e;obtain⟨x,X,B⟩:=e;cases B;exact X
 have hS:∀t u,(St.kn ⟨[(0,r)],fm,0,[]⟩) (.s t)=some (.v u)->t=0/\u=r:=λt u e=>by
  simp only[St.kn,w,cd]at e;obtain⟨x,X,B⟩:=e;cases B;split at X
  .rename_i e;cases X;exact⟨e.symm,J⟩
  .cases X
 have hB:∀d b,w d fm=some b->jn F.N O W' d b:=λd b e=>by obtain⟨m1,m2,m3⟩:=R d b e;have hr:=C.db (E d) (BA E b) (by simp[St.kn,m1]);have hr2:=ZA hr;have KB:=hr2.step (known:=λd=>k<=d) (chg:=λ_=>False) (g':=O) (W':=W') ⟨A,λ_ _ _=>rfl,C.sub,a8 _,λ_ _ _=>rfl,J,J,J⟩ m2.1 (λU hj=>(m3 U hj).1)<|λ_ _ Q=>Q.elim;exact KB.NV<|λx _ _ _ _ X=> .inl<|cQ p.below.size<|X.resolve_right<|λQ=>Q
 refine⟨v,O,J,J,p.defers,?_,λd b e=>hB d b<|Y d b e,?_,?_,?_,C.sub,?_,p.le.trans C.le,?_,?_⟩
 .intro t u e;obtain⟨rfl,rfl⟩:=hS t u e;have:=bI.mono A (λd l=>(hri d l).1)<|Zz hv;simpa[AS]using this
 .intro d i b q kk e e' hk F5;have e:=Y _ _ e;have e':=Y _ _ e';obtain⟨m1,m2,m3⟩:=R d b e;obtain⟨n1,n2,n3⟩:=R i q e';refine apZ d i sK (by rw[e'];rfl) (C.inj (E d) (E i) _ _ kk (by simp[St.kn,m1];rfl) (by simp[St.kn,n1];rfl) ?_ ?_)
  .have:=hk;simp only[O,M (S:¬d<k)]at this;exact this
  .have:=F5;simp only[O,M (S:¬i<k)]at this;exact this
 .intro key x e d l;cases key with
  |s t=>
   cases x with
   |v u=>obtain⟨rfl,rfl⟩:=hS t u e;exact(hri d l).2
   |b q=>simp only[St.kn,cd]at e;obtain⟨_,_,B⟩:=e;cases B
  |m U=>
   cases x with
   |v v'=>simp only[St.kn,cd]at e;obtain⟨_,_,B⟩:=e;cases B
   |b q=>exact((R U q<|Y U q e).2.2 d l).2
 .intro d x e;cases x with
  |v v'=>simp only[St.kn,cd]at e;obtain⟨_,_,B⟩:=e;cases B
  |b q=>exact((R d q<|Y d q e).2.1).2
 .exact⟨C.below.os.trans p.below.os,C.below.tape.trans p.below.tape,C.below.output.trans p.below.output,cQ p.below.size C.below.size,λkk hk L=>by rw[C.below.block kk (jD hk p.below.size) (λQ=>Q)];exact p.below.block kk hk L⟩
 .intro b o hb L;show V.H b o=F.H0 b o;rw[C.fresh b o (jD hb p.below.size) (λQ=>Q)];exact p.fresh b o hb L
 .intro d l;obtain⟨i1,i2⟩:=p.iJ d l;exact⟨jD i1 pz,by show(if d<k then _ else _)=_;rw[s i1];exact i2⟩
end
section
variable{n:I}{sl sl':V (I×AV)}{mem mem':V (I×aH)}{nx:I}{gd gd':V (I×Bool)}{ops:Array Oper}{draw:Bool}{p:Pr}{ks dd:V Ks}{i i' n0 bQ:I}
variable{R:St->Prop}{os:V Oper}{d f:I}{ty:TypeId}{pos:String}{hJ:Array Edge}{dm:V Oper}
def ap1{first a}{g l}(m:runs dD n nx draw ops.toList os i ⟨sl,mem,n0,gd⟩ .t ks=(⟨some d,.makeFunc (.func f) first a,ty,pos,hJ,none⟩::dm,i',⟨sl',mem',bQ,gd'⟩,p,dd))(r:qC ⟨sl',mem',bQ,gd'⟩ first.toList=some g)(v:qC ⟨sl',mem',bQ,gd'⟩ a.toList=some l)
  (x:∀k,RG j n ops draw nx (i'+1) dm ⟨(d,.c<|.X<|1000000*nx+1000*i')::sl',(1000000*nx+1000*i',.fX f g l)::mem',bQ,gd'⟩ (dd++[k]) R)
  (B:p:=by exact xg) (b:Nat.blt d n=ae:=by rfl):RG j n ops draw nx i os ⟨sl,mem,n0,gd⟩ ks R:=
 jI a6 m B (apV r v x b)
end
def ap2 n:CX j 281 [D n] [] 4002000 (.c<|.X 4002002) [(4002000,.box 3 0 [.I .i64 n]),(4002002,.fX 287 [] [(ah,[.P 4002000 0])])] 4002004:=by
 refine apY (λa=>if a=4002000 then 0 else if a=4002002 then 1000000 else a) Tryz.func281 J J J J A (fm0:=[(1000000,.fX 287 [] [(ah,[.P 0 0])]),(0,.box 3 0 [.I .i64 n])]) ?_ A ?_ ?_ ?_
 .exact e J<|t<|ap1 J J J<|λk=>o J<|bc<|apX a6 J
 .intro a h;have h:a∈[4002002]:=h;simp at h;omega
 .intro a b h;simp only[w]at h;split at h
  .rename_i g;subst g;cases h;exact⟨J,A,λf d=>by cases d⟩
  .split at h
   .rename_i g;subst g;cases h;exact⟨J,A,λf d=>by simp[aH.ar,fN,cy,C.ar]at d;omega⟩
   .cases h
 .intro a l h m g;have i:∀f,(w f [(4002000,aH.box 3 0 [.I .i64 n]),(4002002,.fX 287 [] [(ah,[.P 4002000 0])])]).isSome=ae->f=4002000\/f=4002002:=λf d=>by
   simp only[w]at d;split at d
   .omega
   .split at d
    .omega
    .cases d
  rcases i a h with rfl|rfl<;>rcases i l m with rfl|rfl<;>first|rfl| (revert g;decide)
def ap3{c}{mem a}{f}{g}{d}{r}{k}(l:∀i b,w i a=some b->k<=i):St.kn ⟨(d,r)::c,a++mem,f,g⟩=dB (St.kn ⟨c,mem,f,g⟩) ((.s d,some<|.v r)::s6 k a):=by
 funext key;cases key with
 |s t=>
  by_cases e:d=t
  .subst e;simp[St.kn,w,dB,bf]
  .simp[St.kn,w,dB,bf,e,Gu]
 |m j=>
  simp only[St.kn,dB,bf,Gv,x5]
  cases h:w j a with
  |none=>simp
  |some b=>simp[l j b h]
section
variable{n:I}{sl sl':V (I×AV)}{mem mem':V (I×aH)}{nx:I}{gd gd':V (I×Bool)}{ops:Array Oper}{draw:Bool}{p:Pr}{ks dd:V Ks}{i i' n0 bQ:I}
variable{R:St->Prop}{os:V Oper}{d f:I}{args:Array Operand}{lV:Array TypeId}{ty:TypeId}{pos:String}{hJ:Array Edge}{dm:V Oper}{vs:V AV}{r:AV}{Ob:V (I×aH)}{k':I}
def rcN(a:runs dD n nx draw ops.toList os i ⟨sl,mem,n0,gd⟩ .t ks=(⟨some d,.call ⟨.value<|.func f,args,lV⟩,ty,pos,hJ,none⟩::dm,i',⟨sl',mem',bQ,gd'⟩,p,dd))(E:km ⟨sl',mem',bQ,gd'⟩ args.toList=some vs)(F:CX j f vs [] (1000000*nx+1000*i') r Ob k')
  (g:k'<=1000000*nx+1000*(i'+1)) (l:∀c∈r.ar,1000000*nx+1000*i'<=c) (H:∀c b,w c Ob=some b->1000000*nx+1000*i'<=c) (m:∀c b,w c Ob=some b->∀P∈b.ar,1000000*nx+1000*i'<=P)
  (Q:∀k,RG j n ops draw nx (i'+1) dm ⟨(d,r)::sl',Ob++mem',bQ,gd'⟩ (dd++[k]) R)
  (U:p:=by exact xg) (W:fE vs=[]:=by rfl) (v:Nat.blt d n=ae:=by rfl):RG j n ops draw nx i os ⟨sl,mem,n0,gd⟩ ks R:=
 jI a6 a U (adv (k:=(_,_)) (λC=>apB C J J (cY v) J E W F g l m) (λK B=>by let ⟨x,_,a⟩:=jF.1 B;exact gw _ x K a) (ap3 H) (λ_ a=>a) (λ_ a=>a)<|Q _)
end
def ap5{n}{a}{b:vn}{Q}(c:gW n .ret a b Q):gW n .ret a b (λF=>Exit.noGoto<|Q F):=c
open Classical in
def ap6{a}{l}{m}{b}(c:q8 a l m b=ae):Rx.zx (gS m l b.testBit)∣Rx.zx a:=az c
def ap7{n}{f b}(i:Wk f b):gW n .normal f wH (λF k a W=>k= .normal/\∃g,bu (F.dr []) (kb b) b.kn g W a):=λF _ c l g W a m p=>by have d:l=[]:=p;subst d;let ⟨r,v⟩:=i (F.dr []) c g W a m;exact⟨J,r,v⟩
def adI(b:I->Bool):∀(l:V (V Z))(i:I),b7 (bg b i l)<=b7 l
 |[],_=>a8 _
 |x::l,i=>by
  have:=adI b l<|i+1;rw[bg];split
  .simp only[b7];omega
  .simp only[b7];omega
def ym.next{p}{a}{l}{m}{r}(b:ym a l m r)(d:gL p m a l){c}(v:c∈fW (G l))(x:Rx.zx (gS m l c.testBit)∣Rx.zx a):ym (j0 a<|gS m l c.testBit) (bg (λi=> !c.testBit i) 0 l) m r:=by
 let ⟨r1,g,B,C⟩:=d.rest v x;have k:Rx.zx (j0 a<|gS m l c.testBit)∣Rx.zx a:=by rw[r1];exact Rx.dvd_mul_left _ _
 refine⟨g.am,?_,by have:=b.ln;omega,λf n=>b.lm f<|tS n,b.hm,b.w1,b.w0,b.mB,λi=>?_,λf n=>b.lB f<|tS n⟩
 .have E:=g.len;have F:=d.len;have H:=adI (λi=> !c.testBit i) l 0;have:=b.la;omega
 .have K:=d.bd _ g.am k i;have P:=b.mB;unfold aw at*;omega
def ap8{p}{a}{l}{m}{mc}(E:ym a l m mc)(H:gL p m a l)(U:l≠[]):af j 257 [N .z a,N (.sl .z) l,aZ m] (N (.sl .z)<|me m (G l) a l):=by
 refine apD (nx:=1) (n:=75) J J J J J J J ?_;refine kr N4 J<|aoW<|kr N4 J<|p7<|aoU<|n6 ?_;refine tU<|I7 (α:=V (V Z)×V Z×V (V Z)) (λs=>⟨p8 vo,[(3000000,.vec 57 (.sl .z) s.1),(1000000,.box 57 0 [.S .z s.2.1]),(1001000,.box 61 0 [.S (.sl .z) s.2.2]),(1002000,.box 44 0<|av .z m),(2000000,.box 61 0 [.X 3000000])],4,[]⟩) (λs=>ym s.2.1 s.2.2 m mc/\gL p m s.2.1 s.2.2/\s.2.2≠[]/\(∃k,G s.2.2<=k/\s.1++me m k s.2.1 s.2.2=me m (G l) a l)/\G s.1+G s.2.2<=8) (λs=>G s.2.2) ([],a,l) ⟨E,H,U,⟨G l,a8 _,J⟩,by have:=E.ln;simpa using this⟩ (apG 3000000 57 (.sl .z) (aS J) ⟨.inl<|bR J,.inl<|bR J,.inl<|bR J,.inr ⟨_,_,J,J⟩,T⟩ J<|eC.of J) ?_;generalize hR:me m (G l) a l=R;clear E H U;rintro⟨g,a,l⟩ ⟨E,H,U,⟨k,hk,he⟩,hn⟩;dsimp only at E H U hk he hn⊢;refine tU<|p7<|Cb N4 ?_;refine rcN J J (ap2 _) A (λd O=>?_) (λd b r=>?_) (λd b r y hj=>?_)<|λ_=>o J ?_
 .rw[iu.1 O];decide
 .have:=z7 r;simp only[df,cG,Oc,or_false]at this;rcases this with⟨rfl,_⟩|⟨rfl,_⟩<;>decide
 .have:=z7 r;simp only[df,cG,Oc,or_false]at this;rcases this with⟨rfl,rfl⟩|⟨rfl,rfl⟩
  .cases hj
  .rw[iu.1 hj];decide
 refine tU ?_;refine B8 (st':=⟨(18,.c<|.X 4002002)::p8 vo,(4002002,.fX 287 [] [(ah,[.P 4002000 0])])::mC (G l) a l m g,5,[]⟩) aM ?_;have W:o9 m a l=(fW<|G l).find? (q8 a l m):=rfl;have F:∀{L:V (I×aH)},((L.map Prod.fst).contains 0||(L.map λx=>x.2.ar.contains 0).contains ae)=ah->∀d b,w d L=some b->d≠0/\0∉b.ar:=λ{L} Y d b r=>by
  have hm:=z7 r;rw[Bool.or_eq_false_iff]at Y;refine⟨λe=>?_,λe=>?_⟩
  .subst e;have:(L.map Prod.fst).contains 0=ae:=by rw[UC];exact Od (f:=Prod.fst) hm
   rw[Y.1]at this;cases this
  .have:(L.map λx=>x.2.ar.contains 0).contains ae=ae:=by rw[UC];exact kY.2 ⟨_,hm,by rw[UC];exact e⟩
   rw[Y.2]at this;cases this
 have C:∀x d b,w d (mF (G l) a l m g x)=some b->d≠0/\d<5000000/\∀y∈b.ar,y<5000000:=λx d b r=>by have D:=(eC.of (K:=5000000) (m:=mF (G l) a l m g x) J) d b r;exact⟨(F J d b r).1,D⟩
 have q:∀d b,w d (mC (G l) a l m g)=some b->d≠0/\d<5000000/\∀y∈b.ar,y<5000000:=λd b r=>by have D:=(eC.of (K:=5000000) (m:=mC (G l) a l m g) J) d b r;exact⟨(F J d b r).1,D⟩
 refine apj (n0:=75) (nI:=27) (p:=19) (cid:=4002002) (f:=287) (capsI:=N') (wsI:=[.c (.P 4002000 0)]) (Sc:=vo) (M:=mC (G l) a l m g) (Mo:=match(fW<|G l).find? (q8 a l m)with|none=>mC (G l) a l m g|some B=>mF (G l) a l m g B) (bo:=((fW<|G l).find?<|q8 a l m).isNone) (xid:=1) J J J J J J J J (A:1+1<=27) (A:1<=5) (A:19<75) J J ?_ J ?_ ?_ ?_ ?_ ?_ ?_
 .intro s hs;simp only[vo,df,Oc,or_false]at hs;rcases hs with rfl|rfl|rfl|rfl<;>rfl
 .intro t v ht hv;have:=z7 ht;simp only[p8,vo,gZ,wj,df,cG,Oc,or_false]at this;rcases this with⟨_,rfl⟩|⟨_,rfl⟩|⟨_,rfl⟩|⟨_,rfl⟩|⟨_,rfl⟩<;>exact absurd (iu.1 hv) A
 .intro d b r;refine(eV<|λe=>?_).trans r;subst e;cases r
 .exact F J
 .intro d b r;split at r
  .exact q d b r
  .exact C _ d b r
 .intro R ok e1 e2 e3 e4 e5 e6;have u:=apN (R:=R) ok e3 e2 (n:=G l) (a:=a) (l:=l) (m:=m) (fd:=g) E.ln (good:=q8 a l m) (Mo:=λx=>mF (G l) a l m g x) (nxr:=30) J (λx=>C x) (λx hx=>⟨⟨[(8,cU x),(3,.c<|.P 1000000 0),(4,.c<|.P 1001000 0),(5,.c<|.P 1002000 0),(7,.c<|.P 2000000 0)],n8::mC (G l) a l m g,31,[]⟩,(A:1<=31),by
   rw[e1,e2,e4,e5];exact kt adb J<|ap7 aM,by
   rw[e1,e6];have hr:=apU E (fd:=g) S (x:=x) (by have D:=(si.1 hx).1;have h2:2^G l<=2^8:=fG A E.ln;omega) J;cases hg:q8 a l m x<;>rw[hg]at hr<;>exact hr⟩) J
  cases Q:(fW<|G l).find? (q8 a l m)<;>rw[Q]at u<;>exact u
 .cases Q:(fW<|G l).find? (q8 a l m)with
  |none=>
   have vD:me m k a l=[a]:=by
    cases k with
    |zero=>rfl
    |succ k=>rw[me,W,Q]
   rw[<-he,vD]
   refine z6<|n6<|Cb N4<|rl (.sl .z) [a] J J (ra J J J J J J J J J ?_ ?_<|o J ?_)
   .show(G g+1+(G g+1)/4+192)*24<=_;omega
   .show(G g+1)*1<=_;omega
   refine B8 (st':=⟨[(6,.c<|.X 5003000)],[(5003000,.vec 57 (.sl .z)<|g++[a])],6,[]⟩) aM<|B8 (oN 5003000 J)<|ac3<|EO<|aoV<|EO<|ap5<|apC a6 J<|a7.refl _
  |some B=>
   have hS:B∈fW (G l):=ap9 Q
   have hd:Rx.zx (gS m l B.testBit)∣Rx.zx a:=ap6<|List.find?_some Q
   let ⟨r1,r2,r3,r4⟩:=H.rest hS hd
   refine ac6<|I5<|I6<|B9 (g++[gS m l B.testBit],j0 a<|gS m l B.testBit,bg (λi=> !B.testBit i) 0 l) ⟨E.next H hS hd,r2,r3,?_,?_⟩ r4 aM
   .cases k with
    |zero=>exact absurd (et S) U
    |succ k=>
     refine⟨k,(S:G (bg (λi=> !B.testBit i) 0 l)<=k),?_⟩
     rw[<-he,me,W,Q]
     show(g++[gS m l B.testBit])++_=_
     rw[jR];rfl
   .show G (g++[gS m l B.testBit])+G (bg (λi=> !B.testBit i) 0 l)<=8;rw[fO];show G g+1+_<=8;omega
open Fx
structure dq(p:I)(a:V Z):Prop where
 H:aX p
 am:aG a
 l2:2<=a.length
 l9:a.length<=9
 co:Co (fx a:Fx p) (bp<|fx a)
def adJ:∀(l m:V (V Z)),jB (l++m)=jB l*jB m
 |[],m=>by rw[sV,jB,PS.one_mul]
 |f::l,m=>by rw[kU,jB,jB,adJ l m];ac_rfl
def ES:∀(l m:V (V Z)),b7 (l++m)=b7 l+b7 m
 |[],m=>by rw[sV,b7,dU]
 |f::l,m=>by rw[kU,b7,b7,ES l m];omega
def Je(F:I->V Z):∀r,jB ((be r).map F)=fr (λi=>h<|F i) r
 |0=>rfl
 |r+1=>by rw[nE,fe,adJ,Je F r,fr,gZ,wj,jB,jB,PS.mul_one]
def EU(F:I->V Z):∀r,b7 ((be r).map F)=nY (λi=>G (F i)-1) r
 |0=>rfl
 |r+1=>by rw[nE,fe,ES,EU F r,nY,gZ,wj,b7,b7,jE]
def Cc(a:V (V Z)):(be<|G a).map (λi=>a.getD i [])=a:=by
 refine lq ax λi c b=>?_
 rw[og,uA,aF,bD b];rfl
def Oe{p:I}:∀l:V (V Z),eD p l=fj l
 |[]=>rfl
 |f::l=>by rw[eD,fj,Oe l]
def UD{p:I}(H:aX p):∀{l:V (V Z)},(∀g∈l,bw (fx g:Fx p))->jz (fj l:Fx p)->l.Pairwise (λx a=>Co (fx x:Fx p)<|fx a)
 |[],_,_=>List.Pairwise.nil
 |x::l,d,i=>by
  have c:∀{l:V (V Z)}{a:V Z},a∈l->(fx a:Fx p)∣fj l:=by
   intro l;induction l with
   |nil=>intro f b;cases b
   |cons a l k=>
    intro f b
    rcases df.1 b with rfl|b
    .exact⟨fj l,by rw[fj,mul_comm]⟩
    .let ⟨w,hw⟩:=k b;exact⟨fx a*w,by rw[fj,hw,mul_assoc]⟩
  refine im.2 ⟨λa m=>?_,UD H (λg n=>d g<|by simp[n]) (i.of_dvd ⟨fx x,J⟩)⟩;have r:=d x ax;refine xZ H (λe=>by have:=r.1;rw[e,kd H.pos]at this;omega) λQ B C E=>i Q B ?_
  let ⟨u,hu⟩:=C;let ⟨v,F⟩:=dvd_trans E<|c m;refine⟨u*v,?_⟩;show fx x*fj l=_;rw[hu,F];ac_rfl
section
variable{p:I}{a:V Z}
def dq.p1(h:dq p a):1<(p:Z):=NI
def dq.trim(b:dq p a):au (md p a)=md p a:=(b.am.md b.p1).trim
def dq.f(b:dq p a):Mon p (md p a)/\(md p a).length=G a/\(fx (md p a):Fx p)=fx a:=by refine⟨⟨?_,(b.am.md b.p1).1,(b.am.md b.p1).2⟩,oU _ _,D6 a⟩;rw[<-b.trim];exact gH b.H.pos<|pH b.H.pos a
def dq.ne(b:dq p a):(fx a:Fx p)≠0:=λe=>by have:=pY b.H b.am;rw[e,kd b.H.pos]at this;have:=b.l2;omega
def dq.jN(b:dq p a):jz (fx a:Fx p):=by let ⟨U,V,e⟩:=b.co;exact R6 b.H b.ne (D:=1) (U:=U) (V:=V) (mul_one _).symm e.symm
noncomputable def dq.Ls(b:dq p a):V (V Z):=nv b.H<|md p a
def dq.mH(h:dq p a):pQ p (md p a) h.Ls:=by let ⟨f1,f2,f3⟩:=h.f;exact SN h.H f1 (by have:=h.l2;omega) EV (by rw[f3];exact h.jN)
def dq.UE(b:dq p a):(fx a:Fx p)=fj b.Ls:=by rw[<-Oe,b.mH.prod,b.f.2.2]
def dq.UF(c:dq p a):∀b∈c.Ls,aG b:=λb d=>⟨(c.mH.parts b d).1.ne,(c.mH.parts b d).1.one⟩
def dq.pair(b:dq p a):b.Ls.Pairwise (λx c=>Co (fx x:Fx p)<|fx c):=UD b.H (λg d=>(b.mH.parts g d).2.2) (by rw[<-b.UE];exact b.jN)
def dq.dg(b:dq p a):G a=1+b7 b.Ls:=by let ⟨t1,t2⟩:=wF b.p1 yi b.UF;rw[<-pY b.H b.am,b.UE,<-yj b.Ls p (EM _),pY b.H t1,t2];rfl
def Jf:∀{l:V (V Z)},(∀f∈l,2<=G f)->G l<=b7 l/\∀f∈l,G f<=1+b7 l
 |[],_=>⟨a8 _,λf b=>by cases b⟩
 |x::l,c=>by
  let ⟨i1,i2⟩:=Jf (l:=l) λf b=>c f (by simp[b])
  have:=c x ax;refine⟨by rw[fu,b7];omega,λf b=>?_⟩;rw[b7];rcases df.1 b with rfl|b
  .omega
  .have:=i2 f b;omega
def dq.two(c:dq p a):∀b∈c.Ls,2<=G b:=λb d=>(c.mH.parts b d).2.1
def dq.r8(b:dq p a):G b.Ls<=8/\∀c∈b.Ls,G c<=9:=by let ⟨i1,i2⟩:=Jf b.two;have:=b.dg;have:=b.l9;exact⟨S,λc d=>by have:=i2 c d;omega⟩
def dq.Lne(b:dq p a):b.Ls≠[]:=λe=>by have c:=b.dg;rw[e]at c;have:=b.l2;rw[c]at this;exact absurd this A
def dq.at(b:dq p a){i}(c:i<G b.Ls):b.Ls.getD i []∈b.Ls:=by rw[aF,bD c];exact j6 c
def dq.qJ(b:dq p a){i d}(l:i<G b.Ls)(m:d<G b.Ls)(n:d≠i):fU p (h<|b.Ls.getD d []) (h<|b.Ls.getD i []):=by
 refine D9.1 ?_;have f:=vi.1 b.pair;have g:∀k(r:k<G b.Ls),b.Ls.getD k []=b.Ls[k]:=λk r=>by rw[aF,bD r];rfl
 rw[g i l,g d m];rcases Nj n with c|c
 .exact f d i m l c
 .exact(f i d l m c).symm
def dq.EW(b:dq p a):pX p (λi=>b.Ls.getD i []) (G b.Ls):=by
 let ⟨r1,l⟩:=b.r8;have k:∀j,j<G b.Ls->aY p (b.Ls.getD j []):=λj f=>(b.mH.parts _<|b.at f).1.c
 refine⟨b.H.hp,b.H.le,S,k,λi d=>b.two _<|b.at d,λi d=>by have:=l _<|b.at d;omega,λi d=>?_⟩;exact TV b.H.hp b.H.le d k (b.UF _<|b.at d).1 (λj f g=>b.qJ d f g) _<|a8 _
def dq.fB(b:dq p a):G a=(fB (λi=>b.Ls.getD i []) p<|G b.Ls).length:=by rw[IS _ _ _ (λi c=>by have:=b.two _<|b.at c;omega),<-EU (λi=>b.Ls.getD i []) (G b.Ls),Cc,b.dg,AL]
def dq.EX(b:dq p a):qY p a (λi=>b.Ls.getD i []) (G b.Ls):=by
 refine⟨b.EW,λi c=>b.UF _<|b.at c,λi c=>?_,b.am,b.fB,?_⟩
 .have d:∀n,n<=i->fU p (fr (λj=>h<|b.Ls.getD j []) n) (h<|b.Ls.getD i []):=by
   intro n;induction n with
   |zero=>intro _;exact fU.one _
   |succ n f=>
    intro g
    exact(f S).mul (b.qJ c S S)<|IQ n λj _=>aU.ps _ _
  exact d i<|a8 _
 .rw[<-Je (λi=>b.Ls.getD i []) (G b.Ls),Cc];have e:(fx a:Fx p)=fj b.Ls:=b.UE;rw[vf]at e;exact mk_eq.1 e
end
def adL(a:V Z):∀n,((jV a n:I):Z)=sm (λi=>(aq (Y a i 0):Z)) n
 |0=>rfl
 |n+1=>by rw[jV,sm,<-adL a n,uG]
def Og{a}(f:aG a){g}(c:aG g)(r:Rx.zx g∣Rx.zx a) i:(Y g i 0).natAbs<=cO a:=by
 let ⟨k,d⟩:=r;have b:Rx.Mo k:=by have:=Rx.mZ f;rw[d]at this;exact this.zO<|Rx.mZ c
 let ⟨i1,_⟩:=Rx.T5 b (Rx.mZ c)<|d▸Rx.B0 a;let ⟨q,q1,v⟩:=Rx.NB i1;subst v;have p:aG q:=Rx.NC q1 b;have m:=Rx.ND d.symm;have F:=bX.2 p.1;have H:=bX.2 c.1;have K:=bX.2 f.1;have x:=Rx.dE b.ne (Rx.mZ c).ne;rw[<-d,Rx.jZ f.can,Rx.jZ q1,Rx.jZ c.can]at x;have n:=Rx.abI (A:=h g) (B:=h q) (k:=G g-1) (l:=G q-1) (λj C=>cF g S) (λj C=>cF q S) (by rw[cc,p.2];decide) i;rw[PS.mul_comm,m,(S:G g-1+(G q-1)=G a-1)]at n;have E:Rx.vb (G a-1) (h a)=((jV a (G a):I):Z):=by rw[adL,Rx.vb,(S:G a-1+1=G a)];rfl
 rw[E]at n;have e:((cO a:I):Z)=2^(G a-1)*((jV a (G a):I):Z):=by rw[cO,fF,ot,ew];rfl
 rw[<-e,cc]at n;omega
section
variable{p:I}{a:V Z}
noncomputable def dq.lf(b:dq p a)(k:I):V (V Z):=tM p a (λi=>b.Ls.getD i []) (G b.Ls) k
def dq.EY(b:dq p a) k:G (b.lf k)=G b.Ls:=by simp[dq.lf,tM]
def dq.adM(b:dq p a){k}(r:1<=k){i}(g:i<G b.Ls)(l:i<G (b.lf k)):aG (b.lf k)[i]/\(b.lf k)[i].length=G (b.Ls.getD i [])/\(fx (b.lf k)[i]:Fx p)=fx (b.Ls.getD i [])/\∀c,(b.lf k)[i].getD c 0=cp (Y (cM p a (λi=>b.Ls.getD i []) (G b.Ls) (k-1) i) c 0) ((p:Z)^k):=by
 obtain⟨s,rfl⟩:∃s,k=s+1:=⟨k-1,S⟩;have d:=b.EX;have f:=d.pw s;let ⟨m,n⟩:=d.one s g;have e:(b.lf<|s+1)[i]=(cM p a (λi=>b.Ls.getD i []) (G b.Ls) s i).map (cp · ((p:Z)^(s+1))):=by simp[dq.lf,tM]
 rw[e];refine⟨wE f n,by rw[cL,m],?_,λc=>m0 _ S c⟩;have:=d.image s g;rw[<-this,pK,D6]
def dq.EZ(b:dq p a){k}(d:1<=k):(b.lf k).map (fx (p:=p))=b.Ls.map fx:=by
 refine lq (by simp[b.EY]) λi f h2=>?_
 rw[og,og];have c:i<G b.Ls:=lj;rw[(b.adM d c<|by rw[b.EY];exact c).2.2.1,aF,bD c];rfl
def dq.Oh(b:dq p a){k}(m:1<=k){c}(n:c∈b.lf k):∃i,∃g:i<G b.Ls,aG c/\G c=G (b.Ls.getD i [])/\(fx c:Fx p)=fx (b.Ls.getD i [])/\∀l,Y c l 0=cp (Y (cM p a (λi=>b.Ls.getD i []) (G b.Ls) (k-1) i) l 0) ((p:Z)^k):=by
 obtain⟨i,g,rfl⟩:=AM n;have d:i<G b.Ls:=by rw[<-b.EY k];exact g
 exact⟨i,d,b.adM m d g⟩
def dq.cbH(b:dq p a){k}(l:1<=k)(B:2*cO a<p^k):gL p ((p:Z)^k) a (b.lf k):=by
 refine⟨b.H,⟨k,l,J⟩,b.am,λf m=>?_,λf m=>?_,?_,?_,b.jN,?_,λg r v i=>?_⟩
 .let ⟨i,c,d,_⟩:=b.Oh l m;exact d
 .let ⟨i,c,_,_,x,_⟩:=b.Oh l m;rw[x];exact(b.mH.parts _<|b.at c).2.2
 .have d:(b.Ls.map<|fx (p:=p)).Pairwise Co:=wh.2 b.pair;rw[<-b.EZ l]at d;exact wh.1 d
 .obtain⟨s,rfl⟩:∃s,k=s+1:=⟨k-1,S⟩;have n:=b.EX;refine(n.all s).2.2.trans ?_;show Cg _ _ (jB<|(be<|G b.Ls).map λi=>(cM p a (λi=>b.Ls.getD i []) (G b.Ls) s i).map (cp · ((p:Z)^(s+1))));rw[Je];refine IP _ λi c=>Cg.of λj=>?_
  have d:=n.pw s;show Y (cM p a (λi=>b.Ls.getD i []) (G b.Ls) s i) j 0%_=((cM p a (λi=>b.Ls.getD i []) (G b.Ls) s i).map (cp · ((p:Z)^(s+1)))).getD j 0%_;rw[m0 _ S,tR S]
 .rw[b.dg];refine aC (1+·) ?_;show _=b7 ((be<|G b.Ls).map λi=>(cM p a (λi=>b.Ls.getD i []) (G b.Ls) (k-1) i).map (cp · ((p:Z)^k)));rw[EU,<-Cc b.Ls,EU];rw[Cc];refine acE _ λi c=>?_
  rw[cL,(b.EX.one (k-1) c).1]
 .have:=Og b.am r v i;have e:((p^k:I):Z)=(p:Z)^k:=ot p k;rw[<-e];omega
end
def nz(p:I)(a:V Z):Bool:=decide<|List.length (c8 p (au<|md p a)<|au<|dG p<|au<|md p a)=1
def Oi{p}(H:aX p) a:nz p a=ae↔Co (fx a:Fx p) (bp<|fx a):=by
 have c:aY p (au<|md p a):=gH H.pos<|pH H.pos a;have d:aY p (au<|dG p<|au<|md p a):=gH H.pos<|zJ qM _;have b:(fx (au<|md p a):Fx p)=fx a:=by rw[pK,D6]
 have f:(fx (au<|dG p<|au<|md p a):Fx p)=bp (fx a):=by rw[pK,MN,b]
 unfold nz;rw[decide_eq_true_iff,Hp H.hp H.le c d,<-D9,b,f]
def UG p b(i:2<=p):∃k,1<=k/\b<p^k/\∀c,1<=c->c<k->p^c<=b:=by
 have f:∀n,n<p^n:=λn=>jD Nat.lt_two_pow_self<|v5 i n
 have g:∀n,(∀c,1<=c->c<n+1->p^c<=b)\/∃k,1<=k/\b<p^k/\∀c,1<=c->c<k->p^c<=b:=by
  intro n;induction n with
  |zero=>exact .inl λc a b=>by omega
  |succ n d=>
   rcases d with d|d
   .by_cases h:p^(n+1)<=b
    .refine .inl λc f l=>?_
     by_cases e:c=n+1
     .rw[e];exact h
     .exact d c f S
    .exact .inr ⟨n+1,S,S,d⟩
   .exact .inr d
 rcases g (b+1)with h|h
 .have:=h (b+1) S S;have:=f<|b+1;omega
 .exact h
open Classical in
noncomputable def ig(p b:I):I:=if hp:2<=p then wm (UG p b hp)else 1
def E3{p}(a:2<=p) b:1<=ig p b/\b<p^ig p b/\∀c,1<=c->c<ig p b->p^c<=b:=by have e:ig p b=wm (UG p b a):=dif_pos a;rw[e];exact qL<|UG p b a
structure m6(a:V Z):Prop where
 am:aG a
 l2:2<=a.length
 l9:a.length<=9
 aB:∀i,aw 6 (a.getD i 0)
 ex:∃p∈iA,Co (fx a:Fx p) (bp<|fx a)
def Jg{p}(a:p∈iA):aX p:=⟨abL a,by have:=(wD a).2;omega⟩
def m6.md{a}(b:m6 a){p}(c:p∈iA)(d:nz p a=ae):dq p a:=⟨Jg c,b.am,b.l2,b.l9,(Oi (Jg c) a).1 d⟩
def m6.o9{a}(c:m6 a):∃p,iA.find? (nz · a)=some p/\p∈iA/\nz p a=ae:=by
 let ⟨p,hp,hc⟩:=c.ex;have d:=(Oi (Jg hp) a).2 hc;cases b:iA.find? (nz · a)with
 |none=>exact absurd d (by simpa using EN.1 b p hp)
 |some q=>exact⟨q,J,ap9 b,by simpa using List.find?_some b⟩
open Classical in
noncomputable def tV(a:V Z):V (V Z):=
 if G a=2 then[a]else
 match iA.find? (nz · a)with
 |some p=>if h:dq p a then me ((p:Z)^ig p (2*cO a)) (G<|h.lf<|ig p<|2*cO a) a (h.lf<|ig p<|2*cO a)else[]
 |none=>[]
def adO{a}(b:G a=2):tV a=[a]:=s b
def adP{a}{p}(b:dq p a)(c:G a≠2)(d:iA.find? (nz · a)=some p):tV a=me ((p:Z)^ig p (2*cO a)) (G<|b.lf<|ig p<|2*cO a) a (b.lf<|ig p<|2*cO a):=by unfold tV;rw[M c,d];exact dif_pos b
def adQ{a}(c:Rx.sz a=2):Rx.bw a:=by
 refine⟨S,λX Y e=>?_⟩;have d:a≠0:=λe=>by rw[e,Rx.kd]at c;omega
 have f:X≠0:=λb=>d (by rw[e,b,Rx.zero_mul])
 have g:Y≠0:=λb=>d (by rw[e,b,Rx.mul_zero])
 have i:=Rx.dE f g;rw[<-e,c]at i;have:=Rx.dX f;have:=Rx.dX g;omega
def UH{a}(b:m6 a):(∀r∈tV a,aG r/\Rx.bw (Rx.zx r))/\Rx.o8 (tV a)=Rx.zx a:=by
 by_cases h2:G a=2
 .rw[adO h2];refine⟨λr d=>?_,Rx.mul_one _⟩;rw[iu.1 d];exact⟨b.am,adQ<|by rw[Rx.jZ b.am.can];exact h2⟩
 .let ⟨p,f1,f2,f3⟩:=b.o9;have c:=b.md f2 f3;let ⟨k1,f,g⟩:=E3 (p:=p) (by have:=(wD f2).1;omega)<|2*cO a;rw[adP c h2 f1];exact gL.all _ (a8 _) (λe=>c.Lne<|et<|by rw[<-c.EY,e];rfl)<|c.cbH k1 f
def m6.bB{a}(h:m6 a):aw 8 ((2*cO a:I):Z):=by have c:=Io a h.aB (i:=G a) EV;have b:2^(G a-1)<=2^8:=fG A EV;unfold aw at*;rw[lO]at*;have d:cO a<=jV a (G a)*2^8:=jw _ b;omega
def m6.mBp{a}(d:m6 a){p:I}(q1:2<=p)(l:p<4294967296):aw 9 ((p:Z)^ig p (2*cO a))/\ig p (2*cO a)<=257:=by
 have c:=d.bB;let ⟨k1,m,f⟩:=E3 (p:=p) q1<|2*cO a;generalize ig p (2*cO a)=k at*;generalize 2*cO a=b at*;unfold aw at c;rw[lO]at c;by_cases e:k=1
 .subst e;refine⟨?_,S⟩;unfold aw;rw[dK,oQ,j7,lO];have:(4294967296:I)^1<=4294967296^9:=fG A A;omega
 .obtain⟨j,rfl⟩:∃j,k=j+1:=⟨k-1,S⟩;have n:=f j S S;have r:p^j<4294967296^8:=S;constructor
  .unfold aw;rw[<-ot,lO,fy];have v:p^j*p<=p^j*4294967296:=jw _ S;omega
  .have g:2^j<=p^j:=v5 S j;have i:(2:I)^j<2^256:=by refine s8 g ?_;have:(4294967296:I)^8=2^256:=A;omega
   have:=(Nat.pow_lt_pow_iff_right (a:=2) A).1 i;omega
def m6.mB{a}(c:m6 a){p}(b:p∈iA):aw 9 ((p:Z)^ig p (2*cO a))/\ig p (2*cO a)<=257:=
 c.mBp (by have:=(wD b).1;omega) (by have:=(wD b).2;omega)
def m6.rn{a}(h:m6 a){p}(g:p∈iA)(b:dq p a):ym a (b.lf<|ig p<|2*cO a) ((p:Z)^ig p (2*cO a)) 9:=by
 let ⟨k1,n,r⟩:=E3 (p:=p) (by have:=(wD g).1;omega)<|2*cO a;let ⟨m1,v⟩:=h.mB g;let ⟨r1,k⟩:=b.r8;have c:(1:Z)<(p:Z)^ig p (2*cO a):=by obtain⟨s,l⟩:∃s,ig p (2*cO a)=s+1:=⟨ig p (2*cO a)-1,S⟩;rw[l];exact b.EX.pw s
 refine⟨h.am,EV,by rw[b.EY];exact r1,λf d=>?_,c,A,A,m1,λi=>(h.aB i).le A,λf d i=>?_⟩
 .let ⟨i,m,f1,f2,_⟩:=b.Oh k1 d;exact⟨f1,by rw[f2];have:=k _<|b.at m;omega⟩
 .let ⟨j,x,_,_,_,f4⟩:=b.Oh k1 d;rw[f4];exact EE S m1
def m6.UI{a}(h:m6 a){p}(c:p∈iA)(b:dq p a):o0 p a (λi=>b.Ls.getD i []) (G b.Ls) (ig p<|2*cO a) 6:=by let ⟨k1,d,f⟩:=E3 (p:=p) (by have:=(wD c).1;omega)<|2*cO a;exact⟨b.EW,k1,by have:=(h.mB c).2;omega,EV,A,h.aB,b.fB⟩
def ap'(p:I) a:ji (λi=>a.getD i []) (G a) p=lP p a:=by
 unfold ji lP;refine lq ax λi c h2=>?_
 have b:i<G a:=lj;simp[aF,b]
end Go.El
namespace Go.El
open Go Go.Proofs Go.RowKit
abbrev UJ:AV:= .c<|.V<|.func (.func 250) ⟨[]⟩ ⟨[]⟩
def aqa(a:V O) c:af j 250 [N .q a,aQ c] (.t []):=by refine aD Tryz.func250 ?_;exact rt J<|ahU a6 J<|a7.refl _
def iH(a b:V O):V O:=if G a<G b then a else dV ((dA (Y b (G b-1) 0)⁻¹ a b (G b-1) (G a+1-G b) (G a+1-G b)).2.take<|G b-1)
def cV(r:V O):V O:=if r=[]then[]else dV (n5 (Y r (G r-1) 0)⁻¹ r)
def fJ:I->V O->V O->V O
 |0,a,_=>a
 |k+1,a,b=>if b=[]then a else fJ k b (cV<|iH a b)
structure E4(s:I)(a b:V O):Prop where
 la:a.length<=500
 lb:b.length<=500
 bn:b.getD (b.length-1) 0≠0
 qb:∀i,QS s (b.getD i 0)
 qS:∀c,c<=a.length+1-b.length->∀i,QS s ((dA (b.getD (b.length-1) 0)⁻¹ a b (b.length-1) (a.length+1-b.length) c).2.getD i 0)
 rn:iH a b≠[]->(iH a b).getD ((iH a b).length-1) 0≠0
 qr:∀i,QS s ((iH a b).getD i 0)
def tW(c:I):I->V O->V O->Prop
 |0,_,b=>b=[]
 |k+1,a,b=>b=[]\/(E4 c a b/\tW c k b (cV<|iH a b))
def aqb{f}(g:1<=f)(i:f<=100000000){a b}(k:b≠[])(d:E4 f a b):∃l,af j 251 [N .q a,N .q b] (.t [(ah,[.S .q l]),(ah,[.S .q (iH a b)]),(ah,[.I .i64 0])]):=by
 have m:=bX.2 k;have n:=d.la;have p:=d.lb;by_cases c:G a<G b
 .rw[iH,s c];exact⟨_,acX a b c S⟩
 .rw[iH,M c];exact⟨_,acW g i a b (G b-1) (G a+1-G b) S S S S d.bn d.qb d.qS⟩
def z9 l:G (dV l)<=G l:=UK
def Jh{a b}(c:b≠[]):G (iH a b)<G b:=by
 have d:=bX.2 c;unfold iH;split
 .assumption
 .exact s8 (z9 _) v7
def aqc{H}(U:1<=H)(hs:H<=100000000) k a b(bW:tW H k a b):af j 249 [N .q a,N .q b,UJ] (N .q<|fJ k a b):=by
 refine aD Tryz.func249 ?_;refine e J<|L<|q<|aK (α:=I×V O×V O) (λx=>⟨[(0,N .q x.2.1),(1,N .q x.2.2),(2,UJ)],[],2,[]⟩) (λx=>tW H x.1 x.2.1 x.2.2/\fJ x.1 x.2.1 x.2.2=fJ k a b) (λx=>x.1) (k,a,b) ⟨bW,J⟩ aM ?_;rintro⟨n,f,g⟩ ⟨h2,i⟩;simp only at h2 i;refine L<|e J<|z J (λl=>?_)<|λl=>?_
 .have p:g≠[]:=λQ=>by subst Q;cases l
  clear l;cases n with
  |zero=>exact absurd h2 p
  |succ n=>
   rw[tW]at h2
   rcases h2 with h2|⟨h2,u⟩
   .exact absurd h2 p
   rw[fJ,M p]at i
   let ⟨W,R⟩:=aqb U hs p h2
   have w:=Jh (a:=f) p
   have y:=h2.lb
   have v:=h2.rn
   have m:=h2.qr
   generalize iH f g=r at*
   obtain⟨c,B⟩:∃c:O,c=if r=[]then 1 else(Y r (G r-1) 0)⁻¹ :=⟨_,J⟩
   refine bN<|ay<|q<|t<|rc J J R<|o J<|t<|rc J J (M2 1 A A)<|o J<|oq ⟨[(1,N .q g),(2,UJ),(7,N .q W),(8,N .q<|cV r),(10,.c<|.P 4001000 0)],[(4001000,.box 46 0<|av .q c)],20,[]⟩ ?_<|λC=>e J ?_
   .exact t<|BF J J (.inl ⟨J,J,J⟩) J (aqa W c)<|o J<|rt J<|dy<|aA (n,g,cV r) ⟨u,i⟩ (di n) aM
   .refine z J (λK=>?_) (λK=>bN ?_)
    .have d:r≠[]:=λQ=>by subst Q;cases K
     rw[M d]at B;have X:=acS S r d S (v d)<|m _;have E:=(m<|G r-1).inv<|v d;rw[<-B]at X E;have F:=Uf U S c r S E m;rw[show dV (n5 c r)=cV r by rw[cV,M d,B]]at F;exact aO J J X J<|bs<|rc J J F<|o J<|fH C<|wk (aS J) ⟨bE J J,T⟩
    .have d:r=[]:=by have K:¬(G r:Z)>0:=aL K;exact et S
     rw[s d]at B;subst d B;exact fH C<|wk (aS J) ⟨bE J J,T⟩
 .have l:g=[]:=by have l:¬(G g:Z)>0:=aL l;exact et S
  subst l;have i:f=fJ k a b:=by
   cases n with
   |zero=>exact i
   |succ n=>rwa[fJ,s J]at i
  rw[<-i];exact aN<|ay<|e J<|bU J
def aqd{c}(d:1<=c)(n:c<=100000000) k a b(p:tW c k a b)(f:fJ k a b≠[])(r:G (fJ k a b)<=1000)(g:Y (fJ k a b) (G (fJ k a b)-1) 0≠0)(l:∀i,QS c (Y (fJ k a b) i 0)):af j 197 [N .q a,N .q b] (N .q<|cV<|fJ k a b):=by refine aD Tryz.func197 ?_;have v:=aqc d n k a b p;have m:=acT d S _ f r g l<|(l _).inv g;rw[show dV (n5 (Y (fJ k a b) (G (fJ k a b)-1) 0)⁻¹ (fJ k a b))=cV (fJ k a b)by rw[cV,M f]]at m;exact e J<|t<|rc J J v<|rc J J m<|o J<|bU J
abbrev UT:ET:= .pr (.sl .q) dS
def Cd(c:I):I->I->V O->V O->V (V O×Z)->V (V O×Z)->Prop
 |0,_,_,_,_,_=>False
 |k+1,n,a,i,acc,out=>if 1<G a/\n<c then∃d b p f g,
   af j 196 [N .q a] (N .q d)/\af j 202 [N .q i,N .q d] (N .q b)/\af j 197 [N .q a,N .q b] (N .q p)/\af j 198 [N .q a,N .q p] (N .q f)/\af j 198 [N .q b,N .q p] (N .q g)/\
   Cd c k (n+1) f g (if 1<G p then acc++[(p,(n:Z))]else acc) out
  else out=acc
def aqe(a d g P f Q E:V O) c(la:G a<=500)(R:af j 196 [N .q a] (N .q d))(U:af j 197 [N .q a,N .q d] (N .q g))(F:af j 199 [N .q a] (N .q P))(W:af j 198 [N .q P,N .q g] (N .q f))(hc:af j 201 [N .q a] (aQ c))(H:af j 200 [aQ c,N .q d] (N .q Q))(hy:af j 198 [N .q Q,N .q g] (N .q E))
 k out (hR:Cd (G a) k 1 f E [] out):lK j 134 [N .q a] 80 UT out:=by
 refine vT Tryz.func134 J J J J A ?_
 refine e J<|e J<|aO J J R J<|t<|rc J J U<|o J ?_
 refine t<|rc J J F<|rc J J W<|rc J J hc<|rc J J H<|rc J J hy<|o J ?_
 refine L<|e J ?_
 refine q<|aK (α:=I×I×V O×V O×V (V O×Z)) (λx=>⟨[(0,N .q a),(3,.c<|.X 6000000),(6,N .q x.2.2.1),(7,N .q x.2.2.2.1),(8,D x.2.1)],[(6000000,.vec 80 UT x.2.2.2.2)],7,[]⟩) (λx=>Cd (G a) x.1 x.2.1 x.2.2.1 x.2.2.2.1 x.2.2.2.2 out/\G x.2.2.2.2<x.2.1/\x.2.1<=G a+1) (λx=>x.1) (k,1,f,E,[]) ⟨hR,Oj,Nat.le_add_left _ _⟩ ?_ ?_
 .exact r6 6000000 80 UT ⟨.inl<|sR J,.inr ⟨J,J⟩,.inl<|sR J,.inl<|sR J,.inl<|sR J,T⟩ T J<|eC.of J
 rintro⟨k,n,f,E,b⟩ ⟨v,h2,K⟩
 simp only at v h2 K
 cases k with
 |zero=>exact absurd v<|λh=>h
 |succ k=>
  rw[Cd]at v
  have B:¬(1<G f/\n<G a)->out=b:=λu=>by rwa[M u]at v
  refine L<|t<|rg 29 J J (λl=>o J<|z J (λi=>?_)<|λi=>?_)<|λl=>o J<|z J (λi=>by cases i)<|λ_=>?_
  .have l:1<G f:=by have l:(G f:Z)>1:=az l;omega
   have i:n<G a:=by have i:(n:Z)<(G a:Z):=az i;omega
   rw[s ⟨l,i⟩]at v;let ⟨dw,C,p,S,Y,c1,c2,c3,c4,c5,v⟩:=v;refine bN<|ay<|L<|q<|t<|rc J J c1<|rc J J c2<|o J<|t<|rc J J c3<|o J<|oq ⟨[(0,N .q a),(3,.c<|.X 6000000),(6,N .q f),(8,D n),(9,N .q C),(10,N .q p)],[(6000000,.vec 80 UT (if 1<G p then b++[(p,(n:Z))]else b))],30,[]⟩ ?_<|λm=>e J<|z J (λr=>?_)<|λr=>bN ?_
   .refine bs<|rc J J c4<|rc J J c5<|o J<|aT<|rt J (hp:=ak)<|aA (k,n+1,S,Y,if 1<G p then b++[(p,(n:Z))]else b) ⟨v,?_,by show n+1<=_;omega⟩ (di k) aM;show G (if 1<G p then b++[(p,(n:Z))]else b)<n+1;split
    .rw[fO];show G b+1<_;omega
    .omega
   .have r:1<G p:=by have r:(G p:Z)>1:=az r;omega
    rw[s r]at m;refine bs<|rl UT [(p,(n:Z))] J J (ra J J J J J J J J J ?_ ?_<|o J ?_)
    .show(G b+1+(G b+1)/4+192)*32<=_;omega
    .show(G b+1)*2<=_;omega
    .exact fH m<|Wk.trans (wk (st':=⟨[(0,N .q a),(3,.c<|.X 11005000),(6,N .q f),(8,D n),(9,N .q C),(10,N .q p)],[(11005000,.vec 80 UT<|b++[(p,(n:Z))])],12,[]⟩) (aS J) ⟨bR J,T⟩)<|Wk.trans (fp 6000000 11005000 J J J) aM
   .have r:¬1<G p:=by have r:¬(G p:Z)>1:=aL r;omega
    rw[M r]at m;exact fH m aM
  .have i:¬n<G a:=by have i:¬(n:Z)<(G a:Z):=aL i;omega
   rw[B (λh=>i h.2)];exact aN<|ay<|e J<|bc<|uD (id:=6000000) a6 J J
  .have l:¬1<G f:=by have l:¬(G f:Z)>1:=aL l;omega
   rw[B (λh=>l h.1)];exact aN<|ay<|e J<|bc<|uD (id:=6000000) a6 J J
namespace Rx
def UL(l:V O):∀n,gD l n<=n/\(∀i,gD l n<=i->i<n->Y l i 0=0)/\(gD l n=0\/Y l (gD l n-1) 0≠0)
 |0=>⟨a8 _,λi _ a=>absurd a S,.inl J⟩
 |n+1=>by
  rw[gD];split
  .rename_i a;let ⟨c,b,d⟩:=UL l n;refine⟨S,λi f g=>?_,d⟩;by_cases e:i=n
   .subst e;exact Rat.num_eq_zero.1 a
   .exact b i f S
  .rename_i a;exact⟨a8 _,λi c b=>absurd b S,.inr λe=>a<|by rw[eJ]at e;rw[e];rfl⟩
def Ol(a:V O) n i:(y n a).getD i 0=if i<n then Y a i 0 else 0:=by
 rw[aF,F3];split
 .rw[aF]
 .rfl
def adT{l}{n}(a:∀i,n<=i->Y l i 0=0):lx (y n l)=lx l:=ext λi=>by
 rw[kQ,kQ,Ol];split
 .rfl
 .exact(a i S).symm
def vp l:lx (dV l)=lx l:=adT λi a=>by
 by_cases e:i<G l
 .exact(UL l<|G l).2.1 i a e
 .exact kv l S
def sn l:bY (dV l):=by
 let ⟨c,h2,a⟩:=UL l<|G l;have b:G (dV l)=gD l (G l):=UK;rcases a with a|a
 .exact .inl<|et S
 .by_cases e:gD l (G l)=0
  .exact .inl<|et S
  .right;rw[b];unfold dV;rw[Ol,s S];exact a
def bY.ne{a}(b:bY a)(c:a≠[]):Y a (G a-1) 0≠0:=b.resolve_left c
def Ji{a}(b:bY a)(c:a≠[]):lx a≠0:=λe=>c<|BR b EA<|e.trans tH.symm
def adU c a:lx (n5 c a)=K c*lx a:=ext λi=>by rw[iQ];exact acR c a i
def UM a:lx (kC a)=bp (lx a):=ext λi=>by
 rw[qW,kQ,kQ];by_cases h:i<G a-1
 .rw[Ug h];rfl
 .rw[kv (kC a) (by rw[NS];omega),kv a S,jA]
def Om{r b}c{k}(d:k+G b<=G r):lx (lS r c b k)=lx r+K c*(X k*lx b):=ext λi=>by
 rw[eR,iQ,nP,kQ,kQ];by_cases a:i<G r
 .rw[show Y (lS r c b k) i 0=_ from vj a];by_cases e:k<=i/\i<k+G b
  .rw[s e,s e.1];rfl
  .rw[M e];split
   .rw[kQ,kv b S,jA,pV]
   .rw[jA,pV]
 .rw[kv (lS r c b k) (by rw[lS,oB];omega),kv r S];split
  .rw[kQ,kv b S,jA,pV]
  .rw[jA,pV]
def aqf a c b:lx (tT a c b)=lx a+K c*lx b:=by unfold tT;rw[Om c (by rw[NT S];omega),amQ,one_mul];congr 1;exact ext λi=>acU a _ i
def aqg{l}{k}a(b:k<G l)(c:Y l k 0=0):lx (l.set k a)=lx l+K a*X k:=ext λi=>by
 rw[eR,iQ,Ir,kQ,kQ,B4 i a b];by_cases e:k=i
 .subst e;rw[s J,s J,c];grind
 .rw[M e,M<|λb=>e b.symm];grind
def UN{a b:V O}{n m:I}(p:G b=n+1)(v:G a=n+m)(B:Y b n 0≠0):∀c,c<=m->
  lx a=lx (dA (Y b n 0)⁻¹ a b n m c).1*lx b+lx (dA (Y b n 0)⁻¹ a b n m c).2/\(∀i,i<m-c->(dA (Y b n 0)⁻¹ a b n m c).1.getD i 0=0)/\(∀i,n+(m-c)<=i->(dA (Y b n 0)⁻¹ a b n m c).2.getD i 0=0)
 |0,_=>by have d:∀i,Y (bh m (0:O)) i 0=0:=NR m;refine⟨?_,λi _=>d i,λi f=>kv a S⟩;show lx a=lx (bh m 0)*lx b+lx a;rw[show lx (bh m (0:O))=0 from ext d,zero_mul,zero_add]
 |c+1,C=>by
  let ⟨g,h2,l⟩:=UN p v B c S;let ⟨l1,l2⟩:=yk (Y b n 0)⁻¹ a b n m c;rw[dA];generalize dA (Y b n 0)⁻¹ a b n m c=x at*;let ⟨q,r⟩:=x;simp only at g h2 l l1 l2⊢;refine⟨?_,λi f=>?_,λi f=>?_⟩
  .rw[aqg _ S (h2 _ S),Om _ S,g,add_mul,zy,neg_mul,mul_assoc (K _)<|X _];generalize K (Y r (m-1-c+n) 0*(Y b n 0)⁻¹)*(X (m-1-c)*lx b)=u;rw[add_assoc,<-add_assoc u,add_comm u,add_assoc<|lx r,add_neg,add_zero]
  .rw[B4 i _ S,M S,h2 i S]
  .have:=aC (λA:Rx=>A i)<|Om (r:=r) (b:=b) (-(Y r (m-1-c+n) 0*(Y b n 0)⁻¹)) (k:=m-1-c) S;simp only[eR,iQ,nP,kQ]at this;rw[this,s S];by_cases e:i=m-1-c+n
   .subst e;rw[(S:m-1-c+n-(m-1-c)=n)];grind
   .rw[l i S,kv b (i:=i-(m-1-c)) S];grind
def eX(a b:V O):V O:=if G a<G b then[]else dV (dA (Y b (G b-1) 0)⁻¹ a b (G b-1) (G a+1-G b) (G a+1-G b)).1
def wI a b:bY (eX a b):=by
 unfold eX;split
 .exact EA
 .exact sn _
def On a b:G (eX a b)<=G a+1-G b:=by
 unfold eX;split
 .exact aW _
 .refine cQ (z9 _) ?_;rw[(yk ..).1];exact a8 _
def adV{a b}(d:bY b)(c:b≠[]):lx a=lx (eX a b)*lx b+lx (iH a b):=by
 have k:=bX.2 c;unfold eX iH;by_cases h:G a<G b
 .rw[s h,s h,tH,zero_mul,zero_add]
 .rw[M h,M h,vp,vp];let ⟨f,_,g⟩:=UN (a:=a) (b:=b) (n:=G b-1) (m:=G a+1-G b) S S (d.ne c) _<|a8 _;rw[adT (λi l=>g i S)];exact f
def E5{a b}(c:bY a):bY (iH a b):=by
 unfold iH;split
 .exact c
 .exact sn _
def rZ{a b}(i:bY a)(f:bY b)(c:b≠[])(g:lx b∣lx a):lx a=lx (eX a b)*lx b:=by
 have d:=adV (a:=a) f c;have k:lx (iH a b)=0:=by
  refine rY (A:=lx b) ?_ ?_
  .rw[d]at g;exact uR g<|dvd_mul_left _ _
  .rw[dH (E5 i),dH f];exact Jh c
 rw[k,add_zero]at d;exact d
def oC r:bY (cV r):=by
 unfold cV;split
 .exact EA
 .exact sn _
def z'{r}(a:r≠[]):lx (cV r)=K (Y r (G r-1) 0)⁻¹ *lx r:=by rw[cV,M a,vp,adU]
def Oo:cV []=[]:=s J
def q9{c:O}(a:c≠0):c⁻¹ ≠0:=λe=>by have:=pW _ a;rw[e,tG]at this;exact absurd this A
def Oq{r}(b:bY r)(a:r≠[]):Mo (lx<|cV r):=by have d:=bX.2 a;have c:=dE (ts<|q9<|b.ne a)<|Ji b a;rw[tA (q9<|b.ne a),dH b]at c;rw[z' a,Mo,iQ,(S:sz (K (Y r (G r-1) 0)⁻¹ *lx r)-1=G r-1),kQ,pW _<|b.ne a]
def Jj{r}(b:bY r):G (cV r)=G r:=by
 by_cases a:r=[]
 .subst a;rw[Oo]
 .have c:=dE (ts<|q9<|b.ne a)<|Ji b a;rw[tA (q9<|b.ne a),dH b,<-z' a,dH<|oC r]at c;omega
def Jk r:lx r∣lx (cV r)/\(bY r->lx (cV r)∣lx r):=by
 by_cases a:r=[]
 .subst a;rw[Oo];exact⟨dvd_refl _,λ_=>dvd_refl _⟩
 .rw[z' a];refine⟨dvd_mul_left _ _,λh=>⟨K<|Y r (G r-1) 0,?_⟩⟩;rw[<-mul_assoc,mul_comm (K _)<|K _,ov<|h.ne a,one_mul]
def UO:∀(k:I)(a b:V O),bY a->bY b->G b<k->bY (fJ k a b)/\lx (fJ k a b)∣lx a/\lx (fJ k a b)∣lx b/\∃U c,lx (fJ k a b)=U*lx a+c*lx b
 |0,_,_,_,_,l=>by omega
 |k+1,a,b,ha,f,l=>by
  rw[fJ];split
  .rename_i d;subst d;exact⟨ha,dvd_refl _,by rw[tH];exact dvd_zero _,1,0,by rw[one_mul,zero_mul,add_zero]⟩
  .rename_i d;have n:=Jh (a:=a) d;have g:=E5 (b:=b) ha;have i:=adV (a:=a) f d;let ⟨i1,i2,i3,U,c,i4⟩:=UO k b (cV<|iH a b) f (oC _) (by rw[Jj g];omega);let ⟨d1,d2⟩:=Jk<|iH a b;let ⟨w,hw⟩:=d1;have m:=dvd_trans i3<|d2 g;refine⟨i1,by rw[i];exact dvd_add (dz i2 _) m,i2,c*w,U-c*w*lx (eX a b),?_⟩;rw[i4,hw,i,mul_add,sub_mul];have:c*w*(lx (eX a b)*lx b)+c*w*lx (iH a b)+(U*lx b-c*w*lx (eX a b)*lx b)=(U*lx b-c*w*lx (eX a b)*lx b+c*w*lx (eX a b)*lx b)+c*(w*lx (iH a b)):=eT;rw[this,kL]
def adW{k}{a b}(f:bY a)(g:bY b)(i:G b<k)(l:a≠[]):fJ k a b≠[]/\bY (cV<|fJ k a b)/\zQ (lx<|cV<|fJ k a b) (lx a) (lx b):=by
 let ⟨d,h2,m,U,V,n⟩:=UO k a b f g i;have c:fJ k a b≠[]:=λe=>by rw[e,tH]at h2;let ⟨w,hw⟩:=h2;rw[mul_zero]at hw;exact Ji f l hw
 let ⟨d1,d2⟩:=Jk<|fJ k a b;let ⟨w,hw⟩:=d1;refine⟨c,oC _,Oq d c,dvd_trans (d2 d) h2,dvd_trans (d2 d) m,w*U,w*V,?_⟩;rw[hw,n,mul_add,mul_assoc,mul_assoc]
end Rx
namespace Rx
def yn(a:I)(b:Z)(c:Rx):Prop:=∀i,∃z:Z,aq z<=a/\(b:O)*c i=(z:O)
def Ht(a:I)(b:Rx):Prop:=∃D:Z,D≠0/\aq D<=a/\yn a D b
def UP{a:Z}(b:a≠0):(a:O)≠0:=λe=>b<|TS.1 e
def yn.le{a b}{c}{d}(f:yn a c d)(k:a<=b):yn b c d:=λi=>by let ⟨z,g,h2⟩:=f i;exact⟨z,cQ g k,h2⟩
def Ht.le{a b}{c}(d:Ht a c)(k:a<=b):Ht b c:=by let ⟨D,f,h2,g⟩:=d;exact⟨D,f,cQ h2 k,g.le k⟩
def Ht.zero{a}(b:1<=a):Ht a 0:=⟨1,A,b,λ_=>⟨0,aW _,jA _⟩⟩
def Ht.qs{c s}{a}(k:Ht c a)(p:c<4294967296^s) i:QS s (a i):=by
 let ⟨D,l,f,m⟩:=k;let ⟨z,g,d⟩:=m i;have b:∀(D z:Z),0<D->aq D<=c->aq z<=c->(D:O)*a i=(z:O)->QS s (a i):=by
  intro D z n f g d;have e:Rat.divInt z D=a i:=by have r:=pW _<|UP (S:D≠0);rw[Th,BW,<-d];grind
  rw[<-e];exact M3 n (S:aq z<4294967296^s) (S:aq D<4294967296^s)
 rcases Int.lt_trichotomy D 0 with e|e|e
 .exact b (-D) (-z) S S S (by rw[Ot,Ot,<-d];grind)
 .exact absurd e l
 .exact b D z e f g d
def yo{a b}{c d}(f:aq a<=c)(k:aq b<=d):aq (a*b)<=c*d:=by rw[qE];exact ly f k
def Ht.sub{a b}{c B}(f:Ht a c)(k:Ht b B):Ht (2*(a*b)) (c-B):=by
 let ⟨D,g,h2,l⟩:=f;let ⟨E,k1,d,m⟩:=k;refine⟨D*E,DG g k1,by have:=yo h2 d;omega,λi=>?_⟩;let ⟨z,n,p⟩:=l i;let ⟨w,r,v⟩:=m i;refine⟨z*E-D*w,?_,?_⟩
 .have x:=yo n d;have C:=yo h2 r;omega
 .rw[xP,iF,IA,iF,iF,<-p,<-v];grind
def Ht.bp{c n}{a}(d:Ht c a)(m:sz a<=n)(b:1<=n):Ht (n*c) (bp a):=by
 let ⟨D,f,h2,g⟩:=d;refine⟨D,f,by have:=ly b h2;omega,λi=>?_⟩;by_cases p:n<=i+1
 .exact⟨0,aW _,by rw[qW,nV S,jA,jA];rfl⟩
 .let ⟨z,k,l⟩:=g<|i+1;refine⟨((i+1:I):Z)*z,yo S k,?_⟩;rw[qW,iF,<-l,sc];grind
def Ht.aqh{b k}{a}(f:Ht b a)(g:a k≠0):Ht b (K (a k)⁻¹ *a):=by
 let ⟨D,l,h2,c⟩:=f;let ⟨w,m,d⟩:=c k;have n:w≠0:=λe=>by
  subst e;rcases zM.1 (d.trans I1)with e|e
  .exact UP l e
  .exact g e
 refine⟨w,n,m,λi=>?_⟩;let ⟨z,p,r⟩:=c i;refine⟨z,p,?_⟩;rw[iQ,<-d,<-r];grind
def adX{a b:V O}{n m l f:I}(P:G b=n+1)(Q:G a=n+m)(F:Y b n 0≠0)(R:Ht l (lx a))(U:Ht f (lx b)):∀c,c<=m->
  ∃d:Z,d≠0/\aq d<=l*(2*f)^c/\yn (l*(2*f)^c) d (lx (dA (Y b n 0)⁻¹ a b n m c).1)/\yn (l*(2*f)^c) d (lx (dA (Y b n 0)⁻¹ a b n m c).2)
 |0,_=>by let ⟨d,h1,h2,h3⟩:=R;rw[oo,kI];refine⟨d,h1,h2,λi=>⟨0,aW _,?_⟩,h3⟩;show(d:O)*Y (bh m (0:O)) i 0=_;rw[NR,jA];rfl
 |c+1,y=>by
  let ⟨d,d1,d2,d3,d4⟩:=adX P Q F R U c S;let ⟨E,k1,h,W⟩:=U;let ⟨β,C,v⟩:=W n;let ⟨_,q0,_⟩:=UN P Q F c S;let ⟨l1,l2⟩:=yk (Y b n 0)⁻¹ a b n m c;have H:β≠0:=λe=>by
   subst e;rcases zM.1 (v.trans I1)with e|e
   .exact UP k1 e
   .exact F e
  have p:(β:O)*(Y b n 0)⁻¹ =(E:O):=by have v:(E:O)*Y b n 0=(β:O):=v;rw[<-v];grind
  rw[dA,fy,<-xL];generalize dA (Y b n 0)⁻¹ a b n m c=x at*;generalize l*(2*f)^c=X at*;let ⟨q,r⟩:=x;simp only at d3 d4 q0 l1 l2⊢;let ⟨t,t1,B⟩:=d4<|m-1-c+n;have B:(d:O)*Y r (m-1-c+n) 0=(t:O):=B;have g:X*f<=X*(2*f):=jw X S;have o:X*(2*f)=X*f+X*f:=by rw[Nat.two_mul,xQ]
  refine⟨d*β,DG d1 H,cQ (yo d2 C) g,λi=>?_,λi=>?_⟩
  .rw[kQ,B4 i _ S];by_cases e:m-1-c=i
   .rw[s e];refine⟨t*E,cQ (yo t1 h) g,?_⟩;rw[iF,iF,<-B,<-p];grind
   .rw[M e];let ⟨z,K,k⟩:=d3 i;have k:(d:O)*Y q i 0=(z:O):=k;refine⟨z*β,cQ (yo K C) g,?_⟩;rw[iF,iF,<-k];grind
  .rw[Om _ S,eR,iQ,nP];let ⟨z,K,k⟩:=d4 i;have A:=yo K C;by_cases e:m-1-c<=i
   .rw[s e];let ⟨w,w1,u⟩:=W<|i-(m-1-c);have J:=yo t1 w1;refine⟨z*β-t*w,S,?_⟩;rw[IA,iF,iF,iF,<-k,<-u,<-B,<-p];grind
   .rw[M e];refine⟨z*β,S,?_⟩;rw[iF,iF,<-k];grind
def yn.take{b}{c}{a}(d:yn b c (lx a)) n:yn b c (lx<|y n a):=λi=>by
 rw[kQ,Ol];split
 .exact d i
 .exact⟨0,aW _,jA _⟩
def E6{a b}{f c}(r:bY b)(g:b≠[])(k:Ht (2^f) (lx a))(v:Ht (2^c) (lx b)):Ht (2^(f+(c+1)*(a.length+1-b.length))) (lx<|eX a b)/\Ht (2^(f+(c+1)*(a.length+1-b.length))) (lx<|iH a b)/\
  (b.length<=a.length->∀d,d<=a.length+1-b.length->Ht (2^(f+(c+1)*(a.length+1-b.length))) (lx (dA (b.getD (b.length-1) 0)⁻¹ a b (b.length-1) (a.length+1-b.length) d).2)):=by
 have x:=bX.2 g
 unfold eX iH
 by_cases h:a.length<b.length
 .rw[s h,s h];refine⟨Ht.zero<|lN A,k.le<|fG A<|Nat.le_add_right _ _,λB=>absurd h S⟩
 .rw[M h,M h,vp,vp];have i:=adX (a:=a) (b:=b) (n:=b.length-1) (m:=a.length+1-b.length) S S (r.ne g) k v;have l:∀d,2^f*(2*2^c)^d=2^(f+(c+1)*d):=λd=>by rw[show 2*2^c=2^(c+1)by rw[fy,fR],<-wc,<-om]
  let ⟨D,d1,d2,d3,d4⟩:=i _<|a8 _;rw[l]at d2 d3 d4;refine⟨⟨D,d1,d2,d3⟩,⟨D,d1,d2,d4.take _⟩,λ_ d p=>?_⟩;let ⟨D,d1,d2,d3,d4⟩:=i d p;rw[l]at d2 d3 d4;exact Ht.le ⟨D,d1,d2,d4⟩<|fG A<|Nat.add_le_add_left (jw _ p) _
def adY{r}{b}(c:bY r)(k:Ht b (lx r)):Ht b (lx<|cV r):=by
 by_cases a:r=[]
 .subst a;rw[Oo];exact k
 .rw[z' a];exact k.aqh (k:=G r-1)<|c.ne a
def Jl n{k}(a:k<=n):2^k<=2^n:=fG A a
def m7{t a}(b:t<32*a):2^t<4294967296^a:=by rw[(A:(4294967296:I)=2^32),<-wc];exact RZ A b
def three{d}:1<=d->d+2<=3^d:=by
 intro h;induction d with
 |zero=>omega
 |succ d a=>
  by_cases e:d=0
  .subst e;decide
  .have:=a S;rw[fy];omega
def Ou{a b}(c:b≠[]):G (cV<|iH a b)<G b\/cV (iH a b)=[]:=by
 by_cases h:iH a b=[]
 .right;rw[h,Oo]
 .left;have:=Jh (a:=a) c;unfold cV;rw[M h];refine s8 (z9 _) ?_;rw[n5,cL];exact this
def UQ{s:I}:∀(k c:I)(a b:V O),bY a->bY b->G b<k->(b=[]\/G b<G a)->G a<=500->Ht (2^c) (lx a)->Ht (2^c) (lx b)->(c+1)*3^G a<=32*s->
  tW s k a b/\(∀i,QS s (Y (fJ k a b) i 0))/\G (fJ k a b)<=500
 |0,_,_,_,_,_,f,_,_,_,_,_=>by omega
 |k+1,c,a,b,ha,m,H,g,la,hA,n,P=>by
  have x:0<3^G a:=lN A;have p:c<32*s:=by have:=jw (c+1) (show 1<=3^G a from x);omega
  rw[tW,fJ];split
  .rename_i e;exact⟨.inl e,λi=>hA.qs (m7 p) i,la⟩
  .rename_i e;have g:=g.resolve_left e;have K:=bX.2 e;let ⟨q1,r,B⟩:=E6 m e hA n;have C:c+(c+1)*(G a+1-G b)+1=(c+1)*(G a-G b+2):=by rw[(S:G a+1-G b=G a-G b+1),(S:G a-G b+2=G a-G b+1+1),xQ (c+1) (G a-G b+1) 1];omega
   have Q:(c+1)*(G a-G b+2)*3^G b<=(c+1)*3^G a:=by have:=three (d:=G a-G b) S;rw[xL];refine jw _ ?_;refine cQ (eB _ this) ?_;rw[<-om,(S:G a-G b+G b=G a)];exact a8 _
   have v:=E5 (b:=b) ha;have E:0<3^G b:=lN A;have l:c+(c+1)*(G a+1-G b)<32*s:=by have:=jw ((c+1)*(G a-G b+2)) (show 1<=3^G b from E);omega
   let ⟨i1,i2,i3⟩:=UQ (s:=s) k (c+(c+1)*(G a+1-G b)) b (cV<|iH a b) m (oC _) (by rcases Ou (a:=a) e with f|f;omega;rw[f,k6];omega) ((Ou (a:=a) e).symm) S
    (n.le<|fG A<|Nat.le_add_right _ _) (adY v r) (by rw[C];omega)
   refine⟨.inr ⟨⟨la,S,m.ne e,λi=>n.qs (m7 p) i,λj F i=>(B S j F).qs (m7 l) i,λf=>v.ne f,λi=>r.qs (m7 l) i⟩,i1⟩,i2,i3⟩
end Rx
end Go.El
