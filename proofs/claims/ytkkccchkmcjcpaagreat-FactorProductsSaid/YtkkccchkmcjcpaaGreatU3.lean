/- The engine, part 19: append. Own work; no condition. -/
import Derived.Deep.AppendSrc
import Derived.Deep.DeepAppendWide
import Derived.Test.YtkkccchkmcjcpaaGreatProg
import Derived.KernelRfl
import Derived.Test.YtkkccchkmcjcpaaGreatU2
set_option linter.defProp false
set_option linter.unusedVariables false
set_option linter.unusedSimpArgs false
set_option linter.unnecessarySimpa false
namespace Go.El
open Go Go.RowKit
section
variable{P:Program}{tt:TT}{n:Nat}
def X2{g:Gh}{T:ET}{ys:List T.den}{v:Value}(h:dt g (.S T ys) v):
  ∃us:List Value,(∀W:World,Sub g.H W→(Builtin.firstCells T.n ys.length v).run P W= .ok us.toArray W)∧us.length=ys.length*T.n∧(∀i(h:i<ys.length),dm g.H T ys[i] ((us.drop (i*T.n)).take T.n))∧∀u∈us,pH u=true:=by
 obtain⟨a,cap,rfl,h1,h2,h3⟩:=h
 by_cases hy:ys=[]
 ·subst hy;refine⟨[],λW _=>?_,by simp,by simp,by simp⟩;cases a with
  |none=>simp[Builtin.firstCells,pure]
  |some a=>simp[Builtin.firstCells,loadCells,loadCellsFrom,pure]
 ·rcases h3 with h3|⟨b,off,rfl,h3⟩
  ·exact absurd h3 hy
  ·let us:=(List.range (ys.length*T.n)).map λk=>(g.H b (off+k)).getD undef
   have g9:us.length=ys.length*T.n:=by simp[us]
   have wY:∀i(hi:i<ys.length),∃cs,cs.length=T.n∧dm g.H T ys[i] cs∧(us.drop (i*T.n)).take T.n=cs∧∀j(hj:j<cs.length),g.H b (off+(i*T.n+j))=some cs[j]:=by
    intro i hi;obtain⟨cs,hl,hr,hc⟩:=h3 i hi;have vp:(i+1)*T.n≤ys.length*T.n:=eJ _ af;rw[fV,jb]at vp;refine⟨cs,hl,hr,?_,λj hj=>by rw[←tO];exact hc j hj⟩;apply nV
    ·simp[us];omega
    ·intro j fo jC;simp only[uW,wF,us,sH,Bj];rw[←tO,hc j jC];rfl
   have nz:∀k(hk:k<us.length),∃v,g.H b (off+k)=some v∧us[k]=v∧pH v=true:=by
    intro k hk;have pM:=T.DP;have dx:k<ys.length*T.n:=af;have hq:k/T.n<ys.length:=Pm (by rw[ix];exact dx);have hm:k%T.n<T.n:=iy _ pM;obtain⟨cs,hl,hr,X3,hc⟩:=wY (k/T.n) hq;have oR:k/T.n*T.n+k%T.n=k:=by rw[ix];exact xU k T.n
    have:=hc (k%T.n) af;rw[oR]at this;refine⟨_,this,?_,?_⟩
    ·simp only[us,sH,Bj,this,DG]
    ·exact(DR (g:=g) T _ _ hr).one (Ef T _) _ (k6 _)
   refine⟨us,λW eL=>?_,g9,λi hi=>?_,λu hu=>?_⟩
   ·simp only[Builtin.firstCells,loadCells];have:=run_loadCellsFrom (P:=P) (W:=W) b (ys.length*T.n) 0 off us #[] g9 (λj hj=>by obtain⟨v,h4,h5,_⟩:=nz j hj;rw[kg,eL _ _ _ h4,h5]);simpa using this
   ·obtain⟨cs,hl,hr,X3,_⟩:=wY i hi;rw[X3];exact hr
   ·obtain⟨k,hk,rfl⟩:=WK hu;obtain⟨v,_,h5,h6⟩:=nz k hk;rw[h5];exact h6
def aij{W:World}{t1 t2 ty E E2:TypeId}{inf:TypeInfo}(tW:P.underlying t1=some (.slice E))(nw:P.underlying t2=some (.slice E2))(hi:P.info? E=some inf){b Es uf:Nat}{y:Value}{m:Nat}(hm:(Builtin.lenOf y).run P W= .ok m W)
  {us vs:List Value} {Eb:TypeId} (jc:(Builtin.firstCells inf.size m y).run P W= .ok us.toArray W) (hh:W.heap[b]? =some (.cells vs.toArray Eb (0,0))) (iO:∀u∈us,pH u=true) (hle:Es+m≤uf) (vq:Es*inf.size+us.length≤vs.length):
  (Builtin.append_ #[t1,t2] ty #[.slice (some ⟨b,0,none⟩) Es uf,y]).run P W= .ok (.slice (some ⟨b,0,none⟩) (Es+m) uf) (jr W b (dG vs us (Es*inf.size)) Eb):=by
 have dh:=Ec (P:=P) b us W vs (Es*inf.size) 0 hh af iO
 simp only[kg]at dh
 unfold Builtin.append_
 simp only[Ku,Bf,Dv]
 rw[Sem.run_bind,run_underlying tW]
 simp only[Result.andThen]
 rw[Sem.run_bind,run_sizeOf hi]
 simp only[Result.andThen]
 rw[Sem.run_bind,run_underlying nw]
 simp only[Result.andThen,pure_bind,mV,cV,Bool.not_false,cP]
 rw[Sem.run_bind,hm]
 simp only[Result.andThen,hle,cP]
 rw[Sem.run_bind,jc]
 simp only[Result.andThen,qt,eZ]
 rw[Sem.run_bind,dh]
 rfl
def Hu(N:Nat→Prop)(g:Gh)(W:World)(E:TypeId)(T:ET)(xs:List T.den)(v:Value):Prop:=
 (v= .slice none 0 0∧xs=[])∨∃b cap,∃vs:List Value,v= .slice (some ⟨b,0,none⟩) xs.length cap∧W.heap[b]? =some (.cells vs.toArray E (0,0))∧
   vs.length=cap*T.n∧xs.length≤cap∧xs.length*T.n≤140737488355328∧(∀i(h:i<xs.length),dm g.H T xs[i] ((vs.drop (i*T.n)).take T.n))∧N b∧∀o,g.H b o=none
def X4{α:Type}(vs:List α)(n i m:Nat)(h:i<m):((vs.take (m*n)).drop (i*n)).take n=(vs.drop (i*n)).take n:=by have h1:(i+1)*n≤m*n:=eJ _ h;rw[fV,jb]at h1;rw[List.drop_take,PD];congr 1;omega
def aik{α:Type}(us vs:List α)(n m i:Nat)(hl:us.length=m*n)(h:m≤i):((us++vs).drop (i*n)).take n=(vs.drop ((i-m)*n)).take n:=by have h1:m*n≤i*n:=eJ _ h;rw[List.drop_append,Kt af,wH,hl,Nat.sub_mul]
def X5{α:Type}(us vs:List α)(n m i:Nat)(hl:us.length=m*n)(h:i<m):((us++vs).drop (i*n)).take n=(us.drop (i*n)).take n:=by have h1:(i+1)*n≤m*n:=eJ _ h;rw[fV,jb]at h1;rw[Kl af,Bc cT]
def X6{H:FH}{T:ET}{xs ys:List T.den}{os us rest:List Value}(ho:os.length=xs.length*T.n)(hu:us.length=ys.length*T.n)(h1:∀i(h:i<xs.length),dm H T xs[i] ((os.drop (i*T.n)).take T.n))(h2:∀i(h:i<ys.length),dm H T ys[i] ((us.drop (i*T.n)).take T.n)):
  ∀i(h:i<(xs++ys).length),dm H T (xs++ys)[i] (((os++us++rest).drop (i*T.n)).take T.n):=by
 intro i hi
 rw[List.getElem_append]
 split
 ·rename_i h;rw[np,X5 os _ T.n xs.length i ho h];exact h1 i h
 ·rename_i h;simp only[kA]at hi;rw[np,aik os _ T.n xs.length i ho af,X5 us _ T.n ys.length _ hu af];exact h2 _ af
def ail{N:Nat→Prop}{g:Gh}{W:World}(eL:Sub g.H W){E E2 t1 t2 ty:TypeId}{T:ET}{xs ys:List T.den}{v y:Value}{inf:TypeInfo}{z:Value}(tW:P.underlying t1=some (.slice E))(nw:P.underlying t2=some (.slice E2))(hi:P.info? E=some inf)(hz:inf.zero=some z)(Hv:z.cells.size=inf.size)(hT:inf.size=T.n)
  (hv:Hu N g W E T xs v) (hy:dt g (.S T ys) y) (hb:((xs.length+ys.length)+(xs.length+ys.length)/4+192)*inf.bytes≤281474976710656) (dO:(xs.length+ys.length)*T.n≤140737488355328) (hN:N W.heap.size):
  ∃v' W',(Builtin.append_ #[t1,t2] ty #[v,y]).run P W= .ok v' W'∧Hu N g W' E T (xs++ys) v'∧W.heap.size≤W'.heap.size∧(∀k,k<W.heap.size→cQ v≠some k→W'.heap[k]? =W.heap[k]?)∧W'.os=W.os∧W'.tape=W.tape∧W'.output=W.output∧Sub g.H W'∧(∀k,cQ v'=some k→W.heap.size≤k∨cQ v=some k):=by
 obtain⟨us,X7,g9,qF,Hw⟩:=X2 (P:=P) hy
 have X8:Sub g.H W.drew:=eL
 have jc:=X7 W eL
 have aim:=X7 W.drew X8
 have x8:∀o,g.H W.heap.size o=none:=by
  intro o;cases hv:g.H W.heap.size o with
  |none=>rfl
  |some v=>
   have:=World.block_lt_of_cell? W _ (eL _ _ _ hv)
   simp at this
 have hlen:∀w':World,(Builtin.lenOf y).run P w'= .ok ys.length w':=by obtain⟨a,cap,rfl,_⟩:=hy;intro w';rfl
 have pM:=T.DP
 have X9:∀(base:Option Addr)(uf:Nat)(Et:List Value),v= .slice base xs.length uf→(Builtin.firstCells inf.size xs.length (.slice base xs.length uf)).run P W.drew= .ok Et.toArray W.drew→Et.length=xs.length*T.n→(∀i(h:i<xs.length),dm g.H T xs[i] ((Et.drop (i*T.n)).take T.n))→uf<xs.length+ys.length→
   ∃v' W',(Builtin.append_ #[t1,t2] ty #[v,y]).run P W= .ok v' W'∧Hu N g W' E T (xs++ys) v'∧W.heap.size≤W'.heap.size∧(∀k,k<W.heap.size→cQ v≠some k→W'.heap[k]? =W.heap[k]?)∧W'.os=W.os∧W'.tape=W.tape∧W'.output=W.output∧Sub g.H W'∧(∀k,cQ v'=some k→W.heap.size≤k∨cQ v=some k):=by
  intro base uf Et hv hold Lr hor br
  subst hv
  have Ab:Src P inf.size t2 y ys.length us W:=⟨.inl ⟨_,nw⟩,hlen,by rw[hT];exact jc,by rw[hT];exact aim,by rw[hT];exact g9,λu hu=>by have:=Hw u hu;revert this;cases u<;>simp[pH,Value.oneCell']⟩
  have aio:((xs.length+ys.length:Nat):Int)≤9223372036854775807:=by have:(xs.length+ys.length)*1≤(xs.length+ys.length)*T.n:=lJ _ pM;omega
  have hr:=run_append_grow_src (P:=P) W t1 t2 ty E inf z tW hi hz base xs.length uf Et hold y ys.length us Ab br aio (growslice_fits_wide br hb)
  have pG:=grownCap_ge W (xs.length+ys.length) uf E
  refine⟨_,_,hr,.inr ⟨W.heap.size,grownCap W (xs.length+ys.length) uf E,Et++us++(Builtin.zeroCells z.cells (grownCap W (xs.length+ys.length) uf E-(xs.length+ys.length))).toList,by simp,by rw[show W.heap.size=W.drew.heap.size from ae,heap_alloc_new];congr 2;apply tP;simp,?_,by simpa using pG,by simpa using dO,X6 Lr g9 hor qF,hN,x8⟩,by simp,?_,ae,ae,ae,?_,?_⟩
  ·simp only[kA,Lr,g9,WL,size_zeroCells,Hv,hT,←fV];congr 1;omega
  ·intro k hk _;exact heap_alloc_old W.drew _ hk
  ·exact Hg X8 _
  ·intro k hk;simp only[cQ,aO]at hk;exact .inl af
 rcases hv with⟨rfl,rfl⟩|⟨b,cap,vs,rfl,hh,kS,hle,X',hr,hNb,hH⟩
 ·by_cases Ya:ys=[]
  ·subst Ya;refine⟨.slice none 0 0,W,?_,.inl ⟨ae,ae⟩,bD _,λ_ _ _=>rfl,ae,ae,ae,eL,by simp[cQ]⟩;have h0:us=[]:=iu (by simpa using g9);subst h0;rw[←hT]at jc;simp[Builtin.append_,run_underlying tW,run_underlying nw,sizeOf,typeInfo,hi,hlen];have h3:(Builtin.firstCells inf.size 0 y).run P W= .ok #[] W:=by simpa using jc
   rw[h3];rfl
  ·have:=cZ.2 Ya;exact X9 none 0 [] ae (run_firstCells_none W.drew _ 0 0 0) be be (by simpa using this)
 ·by_cases QJ:xs.length+ys.length≤cap
  ·have du:b<W.heap.size:=(jU.1 hh).1;have vq:xs.length*inf.size+us.length≤vs.length:=by rw[g9,kS,hT,←fV];exact eJ _ QJ
   have b7:=aij (P:=P) (ty:=ty) tW nw hi (hlen W) (by rw[hT];exact jc) hh Hw QJ vq;refine⟨_,_,b7,.inr ⟨b,cap,dG vs us (xs.length*inf.size),by simp,D8 du,by rw[Ea _ _ _ vq];exact kS,by simpa using QJ,by simpa using dO,?_,hNb,hH⟩,by simp[jr],?_,ae,ae,ae,He eL hH,?_⟩
   ·unfold dG;rw[hT];refine X6 ?_ g9 (λi hi=>?_) qF
    ·simp only[fI];rw[kS];have:=eJ T.n hle;omega
    ·rw[X4 _ _ _ _ hi];exact hr i hi
   ·intro k _ hk;exact D9 (λe=>hk (by simp[cQ,e]))
   ·intro k hk;exact .inr hk
  ·have as5:=eJ T.n hle;have lS:(vs.take (xs.length*T.n)).length=xs.length*T.n:=by rw[fI,kS];omega
   refine X9 (some ⟨b,0,none⟩) cap (vs.take (xs.length*T.n)) ae ?_ lS (λi hi=>by rw[X4 _ _ _ _ hi];exact hr i hi) af;rw[hT];refine run_firstCells_some W.drew T.n xs.length ⟨b,0,none⟩ xs.length cap _ lS ?_;intro j u hj;obtain⟨fo,jC⟩:=wA.1 hj;simp only[uW]at jC;simp only[qt,eZ];have Hn:W.drew.heap[b]? =some (.cells vs.toArray E (0,0)):=hh;rw[tV Hn j (by simp at fo;omega),jC]
def Lt{a:Act}{o:Oper}{b:Builtin}{args:Array Operand}{dn:Array TypeId}(ck:o.op= .call ⟨.builtin b,args,dn⟩){W W':World}{v:Value}(h:∀cs,(Go.builtin b dn o.type cs (args.map a.eval)).run P W= .ok (.value v) W'):(execOp a.eval o).run P W= .ok (.value v) W':=by rw[execOp,ck];simp only[resolve,pure_bind,invoke];exact h _
def vr:List Nat→List (Key×Option Info)
 |[]=>[]
 |id::r=>(.m id,none)::vr r
def BV:List Nat→List (Nat×aK)→List (Nat×aK)
 |[],l=>l
 |id::r,l=>BV r (wR id l)
def QK(ids:List Nat)(t:Nat):bc (vr ids) (.s t)=none:=by
 induction ids with
 |nil=>rfl
 |cons id r ih=>simp[vr,bc,ih]
def BW(j:Nat):∀(ids:List Nat),bc (vr ids) (.m j)=if j∈ids then some none else none
 |[]=>by simp[vr,bc]
 |id::r=>by
  simp only[vr,bc,Key.m.injEq,dC];by_cases h:id=j
  ·simp[h]
  ·rw[aq h,BW j r];by_cases h2:j∈r
   ·simp[h2]
   ·have:¬(j=id∨j∈r):=by rintro(e|e);exact h e.symm;exact h2 e
    rw[aq h2,aq this]
def Yb(j:Nat):∀(ids:List Nat)(l:List (Nat×aK)),ao j (BV ids l)=if j∈ids then none else ao j l
 |[],l=>by simp[BV]
 |id::r,l=>by
  simp only[BV];rw[Yb j r,Hk];by_cases h:id=j
  ·simp[h]
  ·have:¬(j=id):=λe=>h e.symm
   simp[h,this]
def aiq(st:St)(d new:Nat)(ids:List Nat)(x:AV)(b:aK):(⟨(d,x)::st.sl,(new,b)::BV ids st.mem,st.nx,st.gd⟩:St).kn=dI st.kn ((.s d,some (.v x))::(.m new,some (.b b))::vr ids):=by
 funext k;cases k with
 |s t=>
  by_cases e:d=t
  ·simp[St.kn,ao,dI,bc,e]
  ·simp[St.kn,ao,dI,bc,e,QK]
 |m j=>
  by_cases e:new=j
  ·simp[St.kn,ao,dI,bc,e]
  ·simp only[St.kn,ao,dI,bc,e,reduceCtorEq,Key.m.injEq,cV,Yb,BW];split<;>simp
def Yc(aT:cM P tt=true){ops:Array Oper}{i:Nat}{o:Oper}{d:Nat}(ho:ops[i]? =some o)(hg:o.guard=none)(hd:o.dst=some d){n:Nat}(aV:d<n){x y:Operand}{t1 t2:TypeId}(ck:o.op= .call ⟨.builtin .append,#[x,y],#[t1,t2]⟩)
  {st:St} {ids:List Nat} {E E2:TypeId} {T:ET} {xs ys:List T.den} (hx:(∃id,ids=[id]∧st.ev x=some (.c (.X id))∧ao id st.mem=some (.vec E T xs))∨(ids=[]∧st.ev x=some (.c (.V (.slice none 0 0)))∧xs=[]))
  (hy:st.ev y=some (.c (.S T ys))) {ti rR ei:TI} (fA:ao t1 tt=some ti) (hk:ti.kind= .sl E) (yo:ao t2 tt=some rR) (dR:rR.kind= .sl E2) (jN:ao E tt=some ei) (kR:ei.size=T.n) (lA:ei.zero.length=T.n)
  (hb:((xs.length+ys.length)+(xs.length+ys.length)/4+192)*ei.bytes≤281474976710656) (dO:(xs.length+ys.length)*T.n≤140737488355328) (new:Nat):
  ll P n ops i st ⟨(d,.c (.X new))::st.sl,(new,.vec E T (xs++ys))::BV ids st.mem,st.nx,st.gd⟩ new (cH [x,y]++fB ids,.s d:: .m new::fB ids):=by
 refine⟨dU st x++dU st y++g7 st ids,(.s d,some (.v (.c (.X new))))::(.m new,some (.b (.vec E T (xs++ys))))::vr ids,?_,?_,aiq st d new ids _ _,?_,?_⟩
 ·intro F gk Q known σ g W a K dX aJ bw hK;have pJ:dt g (.S T ys) (a.eval y):=gI aJ st y _ hy (λkx aS=>bw kx jw);have hv:Hu F.N g W E T xs (a.eval x)∧(∀k,cQ (a.eval x)=some k→∃id b,ids=[id]∧σ (.m id)=some (.b b)∧cQ (g.γ id)=some k):=by
   rcases hx with⟨id,rfl,hx,hl⟩|⟨rfl,hx,rfl⟩
   ·have lN:a.eval x=g.γ id:=gI aJ st x _ hx (λkx aS=>bw kx jw);have hσ:σ (.m id)=some (.b (.vec E T xs)):=bw (.m id,.b (.vec E T xs)) uR;rw[lN];exact⟨aJ.df id _ hσ,λk hk=>⟨id,_,ae,hσ,hk⟩⟩
   ·have lN:a.eval x= .slice none 0 0:=gI aJ st x _ hx (λkx aS=>bw kx jw);rw[lN];exact⟨.inl ⟨ae,ae⟩,by simp[cQ]⟩
  obtain⟨hv,eN⟩:=hv;have h1:=(gR aT fA).kind;rw[hk]at h1;have h2:=(gR aT yo).kind;rw[dR]at h2;obtain⟨inf,lO,s9,yh,z,yi,qw⟩:=(gR aT jN).info;have Hv:z.cells.size=inf.size:=by
   have:z.cells.toList.length=(ei.zero.map ZV.gj).length:=by rw[qw]
   simp only[WL,dM]at this;omega
  obtain⟨v',W',b7,air,cR,ais,e1,e2,e3,eL,ait⟩:=ail (P:=P) (ty:=o.type) aJ.sub h1 h2 lO yi Hv af hv pJ (by rw[yh];exact hb) dO (.inl aJ.below.size);unfold wpOp;simp only[ho,Region.wanted,hg,cP];refine .inl ?_;unfold Oper.wp;rw[Lt ck (W':=W') (v:=v') (by have e:(#[x,y]:Array Operand).map a.eval= #[a.eval x,a.eval y]:=be;intro cs;rw[e];simp only[Go.builtin,Sem.run_bind,b7,Result.andThen];rfl)];simp only[Oper.upon,hd];have QL:d<a.tmps.size:=rA;let g':Gh:=⟨g.H,λid=>if id=new then v' else g.γ id⟩;have oO:iL known g g':=⟨cF.refl _,λid al=>by
   have:id≠new:=λe=>dX (e▸al)
   simp[g',this]⟩
  have Yd:∀id∈ids,∃b,σ (.m id)=some (.b b):=by
   intro id al;rcases hx with⟨b9,rfl,hx,hl⟩|⟨rfl,_⟩
   ·simp only[jJ]at al;subst al;exact⟨_,bw (.m id,.b (.vec E T xs)) uR⟩
   ·cases al
  have n8:∀id∈ids,id≠new:=λid al e=>by obtain⟨b,hb⟩:=Yd id al;exact dX (e▸aJ.fF _ _ hb)
  refine hK g' _ _ (aJ.step (chg:=λj=>j∈ids) (g':=g') ⟨oO,λ_ _ _=>rfl,eL,cR,?_,e1,e2,e3⟩ _ new dX sC aJ.defers ?_ ?_ ?_ ?_ ?_ ?_)
  ·intro k hk aR;refine ais k hk (λe=>?_);obtain⟨id,b,rfl,hσ,oR⟩:=eN k e;exact aR id be oR
  ·intro t ht;have aR:d≠t:=tL;simp[Act.put,nT aR]
  ·intro id al;refine⟨?_,Yd id al⟩;simp only[bc,reduceCtorEq,cV,Key.m.injEq,BW,al,cP];split<;>simp
  ·intro t u ht;simp only[bc]at ht;split at ht
   ·rename_i e;simp only[Key.s.injEq]at e;simp only[aO,Info.v.injEq]at ht;subst e;subst ht;simp[Act.put,QL,bP,dt,g']
   ·simp[QK]at ht
  ·intro id b ht;simp only[bc,reduceCtorEq,cV]at ht;split at ht
   ·rename_i e;simp only[Key.m.injEq]at e;subst e;simp only[aO,Info.b.injEq]at ht;subst ht;have hr:Hu F.N g' W' E T (xs++ys) (g'.γ new):=by
     have e:g'.γ new=v':=by simp[g']
     rw[e];exact air
    refine⟨hr,.inr ⟨ae,λk hk=>?_⟩⟩;simp only[g',cP]at hk;rcases ait k hk with h|h
    ·exact .inl h
    ·obtain⟨id,b,Hx,hσ,oR⟩:=eN k h;refine .inr ⟨id,b,hσ,?_,oR⟩;have aR:=n8 id (by simp[Hx]);simp only[bc,reduceCtorEq,cV,Key.m.injEq,Ne.symm aR,BW];simp[Hx]
   ·rw[BW]at ht;split at ht<;>simp at ht
  ·intro k y ht;simp only[bc]at ht;split at ht
   ·simp only[aO]at ht;subst ht;intro id al;simp[Info.aD,AV.aD,C.aD]at al;exact .inr al
   ·split at ht
    ·simp only[aO]at ht;subst ht;intro id al;simp[Info.aD,aK.aD]at al
    ·cases k with
     |s t=>simp[QK]at ht
     |m j=>rw[BW]at ht;split at ht<;>simp at ht
  ·intro id y ht;simp only[bc,reduceCtorEq,cV]at ht;split at ht
   ·rename_i e;simp only[Key.m.injEq]at e;exact .inr e.symm
   ·rw[BW]at ht;split at ht<;>simp at ht
 ·intro kx aS;rcases b6.1 aS with h|h
  ·rcases b6.1 h with h|h
   ·exact gn _ x kx h
   ·exact gn _ y kx h
  ·exact rQ _ ids kx h
 ·intro k hk;simp only[dT,eh,b6]at hk;rcases hk with(h|h)|h
  ·exact fS _ (fX st [x,y] k zk)
  ·exact fS _ (fX st [x,y] k zm)
  ·exact j9 _ (qC st ids k h)
 ·have hd:∀ids:List Nat,fi (vr ids)=fB ids:=by
   intro ids;induction ids with
   |nil=>rfl
   |cons id r ih=>simp only[vr,fi,jL,fB]at ih⊢;rw[ih]
  intro k hk;have:fi ((.s d,some (.v (.c (.X new))))::(.m new,some (.b (.vec E T (xs++ys))))::vr ids)= .s d:: .m new::fB ids:=by rw[←hd ids];rfl
  rw[←this];exact hk
def aiu{ops:Array Oper}{draw:Bool}{nx i:Nat}{d:Nat}{x y:Operand}{t1 t2 ty:TypeId}{pos:String}{cJ:Array Edge}{os:List Oper}{sl:List (Nat×AV)}{mem:List (Nat×aK)}{n0:Nat}{gd:List (Nat×Bool)}{ks:List Ks}{Q:St→Prop}(aT:cM P tt=true)
  {id:Nat} {E E2:TypeId} {T:ET} {xs ys:List T.den} (hx:St.ev ⟨sl,mem,n0,gd⟩ x=some (.c (.X id))) (hl:ao id mem=some (.vec E T xs))
  (hy:St.ev ⟨sl,mem,n0,gd⟩ y=some (.c (.S T ys))) {ti rR ei:TI} (fA:ao t1 tt=some ti) (hk:ti.kind= .sl E) (yo:ao t2 tt=some rR) (dR:rR.kind= .sl E2) (jN:ao E tt=some ei) (kR:ei.size=T.n) (lA:ei.zero.length=T.n)
  (hb:((xs.length+ys.length)+(xs.length+ys.length)/4+192)*ei.bytes≤281474976710656) (dO:(xs.length+ys.length)*T.n≤140737488355328)
  (h:RG P n ops draw nx (i+1) os ⟨(d,.c (.X (1000000*nx+1000*i)))::sl,(1000000*nx+1000*i,.vec E T (xs++ys))::wR id mem,n0,gd⟩ (fp draw ks (cH [x,y]++fB [id],[.s d,.m (1000000*nx+1000*i),.m id])) Q) (aV:Nat.blt d n=true:=by rfl):
  RG P n ops draw nx i (⟨some d,.call ⟨.builtin .append,#[x,y],#[t1,t2]⟩,ty,pos,cJ,none⟩::os) ⟨sl,mem,n0,gd⟩ ks Q:=
 kT (λho=>Yc aT ho ae ae (cY aV) ae (.inl ⟨id,ae,hx,hl⟩) hy fA hk yo dR jN kR lA hb dO _) (jD h)
def aiv{ops:Array Oper}{draw:Bool}{nx i:Nat}{d:Nat}{x y:Operand}{t1 t2 ty:TypeId}{pos:String}{cJ:Array Edge}{os:List Oper}{sl:List (Nat×AV)}{mem:List (Nat×aK)}{n0:Nat}{gd:List (Nat×Bool)}{ks:List Ks}{Q:St→Prop}(aT:cM P tt=true)
  {E E2:TypeId} {T:ET} {ys:List T.den} (hx:St.ev ⟨sl,mem,n0,gd⟩ x=some (.c (.V (.slice none 0 0))))
  (hy:St.ev ⟨sl,mem,n0,gd⟩ y=some (.c (.S T ys))) {ti rR ei:TI} (fA:ao t1 tt=some ti) (hk:ti.kind= .sl E) (yo:ao t2 tt=some rR) (dR:rR.kind= .sl E2) (jN:ao E tt=some ei) (kR:ei.size=T.n) (lA:ei.zero.length=T.n)
  (hb:(ys.length+ys.length/4+192)*ei.bytes≤281474976710656) (dO:ys.length*T.n≤140737488355328)
  (h:RG P n ops draw nx (i+1) os ⟨(d,.c (.X (1000000*nx+1000*i)))::sl,(1000000*nx+1000*i,.vec E T ys)::mem,n0,gd⟩ (fp draw ks (cH [x,y],[.s d,.m (1000000*nx+1000*i)])) Q) (aV:Nat.blt d n=true:=by rfl):
  RG P n ops draw nx i (⟨some d,.call ⟨.builtin .append,#[x,y],#[t1,t2]⟩,ty,pos,cJ,none⟩::os) ⟨sl,mem,n0,gd⟩ ks Q:=
 kT (λho=>Yc (xs:=[]) (ids:=[]) aT ho ae ae (cY aV) ae (.inr ⟨ae,hx,ae⟩) hy fA hk yo dR jN kR lA (by simpa using hb) (by simpa using dO) _) (jD (by simpa[fB,BV]using h))
end
def Lu(tt:TT)(t:Nat):Option Nat:=match ao t tt with
 |some ti=>(match ti.kind with
  | .sl e=>(match ao e tt with|some ei=>some ei.size|none=>none)
  |_=>none)
 |none=>none
def QM(tt:TT)(t:Nat)(x i:AV):Option (AV×Pr):=match x,i with
 | .c (.L id off len _),.c (.I _ k)=>(match Lu tt t with
  |some sz=>some (.c (.P id (off+k.toNat*sz)),.and (.le 0 k) (.lt k len))
  |none=>none)
 |_,_=>none
def yp(m:Nat):Option AV→Nat→Option (Nat×Pr)
 |none,d=>some (d,.t)
 |some (.c (.I _ k)),_=>some (k.toNat,.and (.le 0 k) (.le k m))
 |_,_=>none
def QN(tt:TT)(t:Nat)(x:AV)(lo hi mx:Option AV):Option (AV×Pr):=match x,Lu tt t with
 | .c (.L id off len (some c)),some sz=>(match yp c mx c with
  |some (m,p1)=>(match(if mx.isSome&& !hi.isSome then none else yp m hi len)with
   |some (h,p2)=>(match yp h lo 0 with
    |some (l,p3)=>some (.c (.L id (if m=l then off else off+l*sz) (h-l) (some (m-l))),.an p1 (.an p2 p3))
    |none=>none)
   |none=>none)
  |none=>none)
 | .c (.L id off len none),some _=>(match lo,mx with
  |none,none=>(match yp len hi len with
   |some (h,p)=>some (.c (.L id off h none),p)
   |none=>none)
  |_,_=>none)
 | .c (.V (.slice none 0 0)),some _=>(match mx,yp 0 hi 0 with
  |none,some (h,p)=>(match yp h lo 0 with
   |some (_,q)=>some (.c (.V (.slice none 0 0)),.an p q)
   |none=>none)
  |_,_=>none)
 |_,_=>none
def QO(tt:TT)(t:Nat)(x:AV):Option AV:=match ao t tt with
 |some ti=>(match ti.kind with
  | .sl _=>(match x with
   | .c (.L _ _ len _)=>some (.c (.I .i64 len))
   |_=>none)
  |_=>none)
 |none=>none
def Ye(c x y:Option AV):Option (AV×Pr):=match c,x,y with
 |some (.c (.B true)),some v,_=>some (v,.t)
 |some (.c (.B false)),_,some v=>some (v,.t)
 |_,_,_=>none
def Hy(tt:TT)(st:St):Op→Option (AV×Pr)
 | .pick c x y=>Ye (st.ev c) (st.ev x) (st.ev y)
 | .indexAddr t x i=>(match st.ev x,st.ev i with|some v,some w=>QM tt t v w|_,_=>none)
 | .slice t x lo hi mx=>(match st.ev x,zT st lo,zT st hi,zT st mx with|some v,some l,some h,some m=>QN tt t v l h m|_,_,_,_=>none)
 | .call ⟨.builtin .len,args,dn⟩=>(match args.toList,dn.toList with
  |[x],[t]=>(match st.ev x with|some v=>(match QO tt t v with|some u=>some (u,.t)|none=>none)|none=>none)
  |_,_=>none)
 |_=>none
section
variable{P:Program}{tt:TT}{g:Gh}{W:World}
def Lv(aT:cM P tt=true){t n:Nat}(h:Lu tt t=some n):∃e i,P.underlying t=some (.slice e)∧P.info? e=some i∧i.size=n:=by
 refine D7 aT ?_;unfold Lu at h;unfold wO;split at h
 ·rename_i ti hl;split at h
  ·rename_i e hk;split at h
   ·rename_i ei he;have h':ei.size=n:=GJ h;simp[hl,hk,he,h']
   ·simp at h
  ·simp at h
 ·simp at h
def aiw(aT:cM P tt=true){t:Nat}{x i y:AV}{p:Pr}(h:QM tt t x i=some (y,p))(hp:p){v u:Value}(hv:bP g x v)(hu:bP g i u):(∃z,(Instr.indexAt t v u).run P W= .ok z W∧bP g y z)∧∀id∈y.aD,id∈x.aD:=by
 unfold QM at h;split at h
 ·rename_i id off len cap k' k;split at h
  ·rename_i sz cR;simp only[aO,cE]at h;obtain⟨rfl,rfl⟩:=h;obtain⟨e,i,mZ,hi,hs⟩:=Lv aT cR;have jm:u= .int k' k:=hu;subst jm;have sV:0≤k∧k<(len:Int):=hp;have kh:∃b c,cQ (g.γ id)=some b∧v= .slice (some ⟨b,off,none⟩) len c:=by
    cases cap with
    |some c=>obtain⟨b,h1,h2⟩:=hv;exact⟨b,c,h1,h2⟩
    |none=>obtain⟨h0,b,c,h1,h2,_⟩:=hv;subst h0;exact⟨b,c,by rw[h1];rfl,h2⟩
   obtain⟨b,c,hb,rfl⟩:=kh;refine⟨⟨.pointer (some ⟨b,off+k.toNat*sz,none⟩),?_,b,hb,ae⟩,by simp[AV.aD,C.aD]⟩;simp only[Instr.indexAt,asIntOf,Sem.run_bind,run_underlying mZ,Result.andThen];simp[sV,run_sizeOf hi,hs,qt]
  ·simp at h
 ·simp at h
def yq{m:Nat}{x:Option AV}{d h:Nat}{p:Pr}(hb:yp m x d=some (h,p))(hp:p){v:Option Value}(hv:zW g x v)(code:BoundsCode):
  (x=none∧v=none∧h=d)∨(∃u,x.isSome=true∧v=some u∧h≤m∧(Instr.sliceBound u m code).run P W= .ok h W):=by
 unfold yp at hb
 split at hb
 ·simp only[aO,cE]at hb;cases v with
  |none=>exact .inl ⟨ae,ae,hb.1.symm⟩
  |some u=>exact hv.elim
 ·rename_i k' k;simp only[aO,cE]at hb;obtain⟨rfl,rfl⟩:=hb;cases v with
  |none=>exact hv.elim
  |some u=>
   have kh:u= .int k' k:=hv
   subst kh
   have Qe:0≤k∧k≤(m:Int):=hp
   refine .inr ⟨_,ae,ae,by omega,?_⟩
   simp[Instr.sliceBound,asIntOf,Qe,Sem.run,pure]
 ·simp at hb
def aix(aT:cM P tt=true){t:Nat}{x y:AV}{lo hi mx:Option AV}{p:Pr}(h:QN tt t x lo hi mx=some (y,p))(hp:p){v:Value}{vl vh vm:Option Value}(hv:bP g x v)
  (hl:zW g lo vl) (hh:zW g hi vh) (hm:zW g mx vm):
  (∃z,(Instr.sliceAt t v vl vh vm).run P W= .ok z W∧bP g y z)∧∀id∈y.aD,id∈x.aD:=by
 unfold QN at h
 split at h
 ·rename_i id off len c sz cR;obtain⟨e,i,mZ,x7,hs⟩:=Lv aT cR;split at h
  ·rename_i m p1 jq;split at h
   ·rename_i nB p2 dO;split at h
    ·rename_i l p3 QP;simp only[aO,cE]at h;obtain⟨rfl,rfl⟩:=h;obtain⟨jo,aiy⟩:=Pr.D3 hp;obtain⟨iN,vt⟩:=Pr.D3 aiy;obtain⟨b,qq,rfl⟩:=hv;have pz:¬(mx.isSome=true∧hi.isSome=false):=by intro hc;rw[aw (by simp[hc.1,hc.2])]at dO;cases dO
     have G3:yp m hi len=some (nB,p2):=by rw[aq (by intro hc;simp only[eX,KB]at hc;exact pz hc)]at dO;exact dO
     refine⟨⟨.slice (if m=l then some ⟨b,off,none⟩else some ⟨b,off+l*sz,none⟩) (nB-l) (m-l),?_,b,qq,?_⟩,by simp[AV.aD,C.aD]⟩
     ·have nZ:(Instr.sliceBounds true len c vl vh vm).run P W= .ok (l,nB,m) W:=by
       unfold Instr.sliceBounds;rcases yq (P:=P) (W:=W) jq jo hm .slice3Acap with⟨wM,rfl,rfl⟩|⟨u1,wM,rfl,_,n5⟩
       ·rcases yq (P:=P) (W:=W) G3 iN hh .sliceAcap with⟨Eu,rfl,rfl⟩|⟨u2,Eu,rfl,_,qu⟩
        ·rcases yq (P:=P) (W:=W) QP vt hl .sliceB with⟨Hz,rfl,rfl⟩|⟨u3,Hz,rfl,_,HA⟩<;>simp[*]
        ·rcases yq (P:=P) (W:=W) QP vt hl .sliceB with⟨Hz,rfl,rfl⟩|⟨u3,Hz,rfl,_,HA⟩<;>simp[*]
       ·rcases yq (P:=P) (W:=W) G3 iN hh .slice3B with⟨Eu,rfl,rfl⟩|⟨u2,Eu,rfl,_,qu⟩
        ·exact absurd ⟨wM,by simp[Eu]⟩ pz
        ·rcases yq (P:=P) (W:=W) QP vt hl .slice3C with⟨Hz,rfl,rfl⟩|⟨u3,Hz,rfl,_,HA⟩<;>simp[*]
      simp only[Instr.sliceAt,Sem.run_bind,run_underlying mZ,Result.andThen,Instr.slice,nZ,run_sizeOf x7,hs];split<;>simp[pure,qt]
     ·split<;>rfl
    ·simp at h
   ·simp at h
  ·simp at h
 ·rename_i id off len sz cR;obtain⟨e,i,mZ,x7,hs⟩:=Lv aT cR;split at h
  ·split at h
   ·rename_i nB p1 jq;simp only[aO,cE]at h;obtain⟨rfl,rfl⟩:=h;obtain⟨h0,b,c,hγ,rfl,hle⟩:=hv;subst h0;have kS:vl=none:=by cases vl with|none=>rfl|some _=>exact hl.elim
    have QQ:vm=none:=by cases vm with|none=>rfl|some _=>exact hm.elim
    subst kS QQ;have GZ:=Qd (P:=P) (W:=W) (n:=len) (x:=hi) (d:=len) (h:=nB) (p:=p1) (by rw[←jq];cases hi with|none=>rfl|some q=>cases q with|c q=>cases q<;>rfl|_=>rfl) hp hh c hle .sliceAcap;have G4:nB≤len:=by rcases GZ with⟨_,_,e⟩|⟨_,_,h,_⟩<;>omega
    refine⟨⟨.slice (some ⟨b,0,none⟩) nB c,?_,ae,b,c,hγ,ae,by omega⟩,by simp[AV.aD,C.aD]⟩;have nZ:(Instr.sliceBounds true len c none vh none).run P W= .ok (0,nB,c) W:=by unfold Instr.sliceBounds;rcases GZ with⟨_,rfl,rfl⟩|⟨u,rfl,_,n5⟩<;>simp[*]
    simp only[Instr.sliceAt,Sem.run_bind,run_underlying mZ,Result.andThen,Instr.slice,nZ,run_sizeOf x7,hs];simp[pure,qt]
   ·simp at h
  ·simp at h
 ·rename_i sz cR;obtain⟨e,i,mZ,x7,hs⟩:=Lv aT cR;split at h
  ·rename_i nB p1 jq;split at h
   ·rename_i l p2 dO;simp only[aO,cE]at h;obtain⟨rfl,rfl⟩:=h;obtain⟨jo,iN⟩:=Pr.D3 hp;have kh:v= .slice none 0 0:=hv;subst kh;have QQ:vm=none:=by cases vm with|none=>rfl|some _=>exact hm.elim
    subst QQ;refine⟨⟨.slice none 0 0,?_,ae⟩,by simp[AV.aD,C.aD]⟩;have nZ:(Instr.sliceBounds true 0 0 vl vh none).run P W= .ok (0,0,0) W:=by
     unfold Instr.sliceBounds;rcases yq (P:=P) (W:=W) jq jo hh .sliceAcap with⟨_,rfl,rfl⟩|⟨u1,_,rfl,as6,n5⟩
     ·rcases yq (P:=P) (W:=W) dO iN hl .sliceB with⟨_,rfl,rfl⟩|⟨u2,_,rfl,G4,qu⟩
      ·simp[*]
      ·have:l=0:=by omega
       subst this;simp[*]
     ·have:nB=0:=by omega
      subst this;rcases yq (P:=P) (W:=W) dO iN hl .sliceB with⟨_,rfl,rfl⟩|⟨u2,_,rfl,G4,qu⟩
      ·simp[*]
      ·have:l=0:=by omega
       subst this;simp[*]
    simp only[Instr.sliceAt,Sem.run_bind,run_underlying mZ,Result.andThen,Instr.slice,nZ,run_sizeOf x7,hs];simp[pure]
   ·simp at h
  ·simp at h
 ·simp at h
def aiz(aT:cM P tt=true){t r:Nat}{x y:AV}(h:QO tt t x=some y){v:Value}(hv:bP g x v):(Builtin.len_ #[t] r #[v]).run P W= .ok (match y with| .c (.I k n)=> .int k n|_=>undef) W∧(∃n:Int,y= .c (.I .i64 n)):=by
 unfold QO at h;split at h
 ·rename_i ti hl;split at h
  ·rename_i e hk;split at h
   ·rename_i id off len cap _;simp only[aO]at h;subst h;have h2:=(gR aT hl).kind;rw[hk]at h2;have kh:∃a c,v= .slice a len c:=by
     cases cap with
     |some c=>obtain⟨b,h1,h2⟩:=hv;exact⟨_,c,h2⟩
     |none=>obtain⟨h0,b,c,h1,h2,_⟩:=hv;exact⟨_,c,h2⟩
    obtain⟨a,c,rfl⟩:=kh;exact⟨by simp[Builtin.len_,run_underlying h2,goInt,Sem.run,pure],_,ae⟩
   ·simp at h
  ·simp at h
 ·simp at h
def aiA(aT:cM P tt=true){ops:Array Oper}{i:Nat}{o:Oper}{d:Nat}(ho:ops[i]? =some o)(hg:o.guard=none)(hd:o.dst=some d){n:Nat}(aV:d<n)
  {st:St} {x:AV} {p:Pr} (he:Hy tt st o.op=some (x,p)) (hp:p) (new:Nat):mA P n ops i (pE st o.op) [(.s d,some (.v x))] new:=by
 refine ve ho hg hd aV _ x new ?_
 intro F known σ g W a aJ bw
 have fM:∀y∈o.op.operands,∀kx∈dU st y,σ kx.1=some kx.2:=by intro y hy kx aS;exact bw kx (jK.2 ⟨y,by simpa using hy,aS⟩)
 have eT:∀y∈o.op.operands,∀u,st.ev y=some u→bP g u (a.eval y)∧∀id∈u.aD,known id:=by intro y hy u hu;exact⟨gI aJ st y u hu (fM y hy),vd aJ st y u hu (fM y hy)⟩
 generalize ck:o.op=op at he eT fM
 unfold Hy at he
 split at he
 ·rename_i c y z;unfold Ye at he;split at he
  ·rename_i v hc hy;simp only[aO,cE]at he;obtain⟨rfl,rfl⟩:=he;have h0:a.eval c= .bool true:=(eT c iJ _ hc).1;have h1:=eT y iJ _ hy;exact⟨h1.2,_,by simp[execOp,ck,h0,asBool,Sem.run,pure],h1.1⟩
  ·rename_i v hc hy;simp only[aO,cE]at he;obtain⟨rfl,rfl⟩:=he;have h0:a.eval c= .bool false:=(eT c iJ _ hc).1;have h1:=eT z iJ _ hy;exact⟨h1.2,_,by simp[execOp,ck,h0,asBool,Sem.run,pure],h1.1⟩
  ·simp at he
 ·rename_i t y z;split at he
  ·rename_i v w hv hw;have h1:=eT y iJ _ hv;have h2:=eT z iJ _ hw;obtain⟨⟨u,b7,bW⟩,hm⟩:=aiw (P:=P) (W:=W) aT he hp h1.1 h2.1;exact⟨λid al=>h1.2 id (hm id al),u,by simp[execOp,ck,b7,Sem.run,pure],bW⟩
  ·simp at he
 ·rename_i t y lo hi mx;split at he
  ·rename_i v l h m hv hl hh hm;have h1:=eT y iJ _ hv;have h2:=G5 aJ st lo l hl (λq hq=>fM q Kd);have h3:=G5 aJ st hi h hh (λq hq=>fM q Kd);have h4:=G5 aJ st mx m hm (λq hq=>fM q Kd);obtain⟨⟨u,b7,bW⟩,hm⟩:=aix (P:=P) (W:=W) aT he hp h1.1 h2 h3 h4;exact⟨λid al=>h1.2 id (hm id al),u,by simp[execOp,ck,b7,Sem.run,pure],bW⟩
  ·simp at he
 ·rename_i args dn;split at he
  ·rename_i y t ha ht;have kE:args= #[y]:=Ke;have G6:dn= #[t]:=Wh;subst kE G6;split at he
   ·rename_i v hv;split at he
    ·rename_i u hu;simp only[aO,cE]at he;obtain⟨rfl,rfl⟩:=he;have h1:=eT y Gk _ hv;obtain⟨b7,n',rfl⟩:=aiz (P:=P) (W:=W) (r:=o.type) aT hu h1.1;exact⟨by simp[AV.aD,C.aD],.int .i64 n',Lt ck (λcs=>by have e:(#[y]:Array Operand).map a.eval= #[a.eval y]:=be;rw[e];simp only[Go.builtin,Sem.run_bind,b7,Result.andThen];rfl),ae⟩
    ·simp at he
   ·simp at he
  ·simp at he
 ·simp at he
end
section
variable{P:Program}{tt:TT}
def aiB{ops:Array Oper}{i:Nat}{o:Oper}{d:Nat}(ho:ops[i]? =some o)(hg:o.guard=none)(hd:o.dst=some d){n:Nat}(aV:d<n){E:TypeId}(rd:List (Key×Info))(cs:List C)(sz len:Nat)(QR:Option Nat)(new:Nat)
  (h:∀(F:de)(known:Nat→Prop)(σ:Kn)(g:Gh)(W:World)(a:Act),bJ F known σ g W a→(∀kx∈rd,σ kx.1=some kx.2)→
   (∀id∈cD cs,known id)∧∃(vs rest:List Value)(cap:Nat)(W1:World),bU g cs vs∧(execOp a.eval o).run P W= .ok (.value (.slice (some ⟨W.heap.size,0,none⟩) len cap)) {W1 with heap:=W.heap.push (.cells (vs++rest).toArray E (0,0))}∧
    W1.os=W.os∧W1.tape=W.tape∧W1.output=W.output∧(∀c,QR=some c→cap=c)∧(sz≠0→(vs++rest).length=cap*sz)∧len≤cap):
  mA P n ops i rd [(.s d,some (.v (.c (.L new 0 len QR)))),(.m new,some (.b (.box E sz cs)))] new:=by
 intro F gk Q known σ g W a K dX aJ bw hK
 obtain⟨hm,vs,rest,cap,W1,hr,b7,e1,e2,e3,pG,aiC,hlen⟩:=h F known σ g W a aJ bw
 unfold wpOp
 simp only[ho,Region.wanted,hg,cP]
 refine .inl ?_
 unfold Oper.wp
 rw[b7]
 simp only[Oper.upon,hd]
 have cR:d<a.tmps.size:=rA
 let g':Gh:=⟨g.H,λid=>if id=new then .slice (some ⟨W.heap.size,0,none⟩) 0 cap else g.γ id⟩
 have nD:g'.γ new= .slice (some ⟨W.heap.size,0,none⟩) 0 cap:=by simp[g']
 have hle:iL known g g':=⟨cF.refl _,λid al=>by
  have:id≠new:=λe=>dX (e▸al)
  simp[g',this]⟩
 have x8:∀o,g.H W.heap.size o=none:=by
  intro o;cases hv:g.H W.heap.size o with
  |none=>rfl
  |some v=>
   have:=World.block_lt_of_cell? W _ (aJ.sub _ _ _ hv)
   simp at this
 have eL:Sub g.H {W1 with heap:=W.heap.push (.cells (vs++rest).toArray E (0,0))}:=by have:=Hg aJ.sub (.cells (vs++rest).toArray E (0,0));exact this
 refine hK g' _ _ (aJ.step (chg:=λ_=>False) (g':=g') ⟨hle,λ_ _ _=>rfl,eL,by simp,λk hk _=>Hf W _ k hk,e1,e2,e3⟩ _ new dX sC aJ.defers ?_ (λ_ h=>h.elim) ?_ ?_ ?_ ?_)
 ·intro t ht;have aR:d≠t:=tL;simp[Act.put,nT aR]
 ·intro t u ht;simp only[bc]at ht;split at ht
  ·rename_i e;simp only[Key.s.injEq]at e;simp only[aO,Info.v.injEq]at ht;subst e;subst ht;have vn:(a.put (some d) (.slice (some ⟨W.heap.size,0,none⟩) len cap)).tmps.getD d undef= .slice (some ⟨W.heap.size,0,none⟩) len cap:=by simp[Act.put,cR]
   show dt g' _ _;rw[vn];cases QR with
   |some c=>have:=pG c ae;subst this;exact⟨W.heap.size,by rw[nD];rfl,ae⟩
   |none=>exact⟨ae,W.heap.size,cap,nD,ae,hlen⟩
  ·split at ht
   ·simp at ht
   ·simp at ht
 ·intro id b ht;simp only[bc,reduceCtorEq,cV]at ht;split at ht
  ·rename_i e;simp only[Key.m.injEq]at e;subst e;simp only[aO,Info.b.injEq]at ht;subst ht;refine⟨⟨W.heap.size,vs,rest,by rw[nD];rfl,by simp,bU.mono hle hm hr,.inl aJ.below.size,x8,λh0=>⟨cap,nD,aiC h0⟩⟩,.inr ⟨ae,λk hk=> .inl ?_⟩⟩;rw[nD]at hk;simp only[cQ,aO]at hk;omega
  ·simp at ht
 ·intro k y ht;simp only[bc]at ht;split at ht
  ·simp only[aO]at ht;subst ht;intro id al;simp[Info.aD,AV.aD,C.aD]at al;exact .inr al
  ·split at ht
   ·simp only[aO]at ht;subst ht;exact λid al=> .inl (hm id al)
   ·simp at ht
 ·intro id y ht;simp only[bc,reduceCtorEq,cV]at ht;split at ht
  ·rename_i e;simp only[Key.m.injEq]at e;exact .inr e.symm
  ·simp at ht
def aiD(aT:cM P tt=true){ops:Array Oper}{i:Nat}{o:Oper}{d:Nat}(ho:ops[i]? =some o)(hg:o.guard=none)(hd:o.dst=some d){n:Nat}(aV:d<n){t:TypeId}{x y:Operand}(ck:o.op= .makeSlice t x y)
  {st:St} {m:Nat} {k k2:IntKind} (hx:st.ev x=some (.c (.I k (m:Int)))) (hy:st.ev y=some (.c (.I k2 (m:Int)))) {E:Nat} {ti ei:TI} (fA:ao t tt=some ti) (hk:ti.kind= .sl E) (jN:ao E tt=some ei) (pM:0<ei.size) (hb:m*ei.bytes≤16777216) (dO:m≤16777216) (new:Nat):
  mA P n ops i (pE st o.op) [(.s d,some (.v (.c (.L new 0 m (some m))))),(.m new,some (.b (.box E 0 (yn (ei.zero.map ZV.sU) m))))] new:=by
 refine aiB ho hg hd aV _ _ _ _ _ new ?_
 intro F known σ g W a aJ bw
 have hr:a.eval x= .int k (m:Int):=gI aJ st x _ hx (λkx aS=>bw kx Wi)
 have qu:a.eval y= .int k2 (m:Int):=gI aJ st y _ hy (λkx aS=>bw kx Wi)
 have hu:=(gR aT fA).kind
 rw[hk]at hu
 obtain⟨inf,lO,s9,yh,z,yi,qw⟩:=(gR aT jN).info
 have lA:(ei.zero.map ZV.gj).length=ei.size:=by simpa using(gR aT jN).P2
 have vg:z.cells=(ei.zero.map ZV.gj).toArray:=Gm
 have QA:(ei.zero.map ZV.gj)≠[]:=by intro e;rw[e]at lA;simp at lA;omega
 have QB:(inf.bytes:Int)*(m:Int)≤281474976710656:=by
  rw[yh];have:(ei.bytes:Int)*(m:Int)=((m*ei.bytes:Nat):Int):=by rw[ix];simp
  rw[this];omega
 have b7:=run_make (P:=P) W t E inf z hu lO yi k k2 m m af af QB af
 refine⟨by rw[QH (La _)];simp,(List.replicate m (ei.zero.map ZV.gj)).flatten,[],m,W,QG (Ed g ei.zero) m,?_,ae,ae,ae,λc hc=>GJ hc,by simp,bD _⟩
 rw[execOp,ck]
 have BS:madeCells z.cells (m*inf.size)=((List.replicate m (ei.zero.map ZV.gj)).flatten).toArray:=by rw[s9,vg,←lA,←Qz _ m QA];rfl
 simp only[bu]at b7
 rw[BS]at b7
 simp only[hr,qu,Sem.run_bind,b7,Result.andThen,kB]
 rfl
end
def Lw(st:St)(sz:Nat):AV→Option (Nat×List C×List Nat)
 | .c (.L id off len _)=>(match ao id st.mem with
  |some (.box _ _ cs)=>if off+len*sz≤cs.length then some (len,(cs.drop off).take (len*sz),[id])else none
  |some (.fz _ cs)=>if off+len*sz≤cs.length then some (len,(cs.drop off).take (len*sz),[id])else none
  |_=>none)
 | .c (.S T ys)=>if T.n=sz then some (ys.length,ys.flatMap (av T),[])else none
 | .c (.V (.slice none 0 0))=>some (0,[],[])
 |_=>none
section
variable{P:Program}{tt:TT}
def QT{u:Value}(h:pH u=true):u.oneCell'=true:=by revert h;cases u<;>simp[pH,Value.oneCell']
def Yf{T:ET}:∀(ys:List T.den),∀c∈ys.flatMap (av T),rO c=true
 |[],c,h=>by simp at h
 |y::ys,c,h=>by
  simp only[gN,b6]at h;rcases h with h|h
  ·exact Ef T y c h
  ·exact Yf ys c h
def Yg{T:ET}:∀(ys:List T.den),cD (ys.flatMap (av T))=[]
 |[]=>rfl
 |y::ys=>by
  refine List.eq_nil_iff_forall_not_mem.2 λid al=>?_
  rw[gN]at al;rcases K6 _ _ id al with h|h
  ·rw[Hd]at h;cases h
  ·rw[Yg ys]at h;cases h
def Yh{g:Gh}(T:ET):∀(xs:List T.den)(vs:List Value),vs.length=xs.length*T.n→(∀i(h:i<xs.length),dm g.H T xs[i] ((vs.drop (i*T.n)).take T.n))→bU g (xs.flatMap (av T)) vs
 |[],vs,hl,_=>by have:vs=[]:=iu Gl;subst this;rfl
 |x::xs,vs,hl,h=>by rw[gN];have h0:=h 0 be;simp only[Bp,uY,xO]at h0;have hlen:(vs.take T.n).length=T.n:=dm.length T _ _ h0;have:=bU.append (DR (g:=g) T x _ h0) (Yh T xs (vs.drop T.n) (by simp at hl⊢;rw[hl,fV];omega) (λi hi=>by have:=h (i+1) (by simpa using hi);simp only[Gw]at this;rw[xW];rw[show T.n+i*T.n=(i+1)*T.n by rw[fV];omega];exact this));rwa[xP]at this
def Yi{F:de}{known:Nat→Prop}{σ:Kn}{g:Gh}{W:World}{a:Act}(aJ:bJ F known σ g W a){st:St}{y:AV}{sz m:Nat}{cs:List C}{ids:List Nat}(h:Lw st sz y=some (m,cs,ids)){v:Value}(hv:bP g y v)
  (bw:∀id∈ids,∀b,ao id st.mem=some b→σ (.m id)=some (.b b)) {t e:TypeId} (hu:P.underlying t=some (.slice e)) (rP:cs.all rO=true):
  ∃us:List Value,Src P sz t v m us W∧bU g cs us∧(∀id∈cD cs,known id)∧∀u∈us,pH u=true:=by
 have iO:∀us,bU g cs us→∀u∈us,pH u=true:=λus hr=>hr.one (λc hc=>wG.1 rP c hc)
 unfold Lw at h
 split at h
 ·rename_i id off len cap;split at h
  ·rename_i E bz QU hl;split at h
   ·rename_i vq;simp only[aO,cE]at h;obtain⟨rfl,rfl,rfl⟩:=h;have hσ:=bw id be _ hl;obtain⟨b,vs,rest,hγ,hh,hr,hN,hz,BE⟩:=aJ.df id _ hσ;have kh:∃c,v= .slice (some ⟨b,off,none⟩) len c:=by
     cases cap with
     |some c=>
      obtain⟨b',h1,h2⟩:=hv
      rw[hγ]at h1
      cases h1
      exact⟨c,h2⟩
     |none=>
      obtain⟨h0,b',c,h1,h2,_⟩:=hv
      rw[h1]at hγ
      simp only[cQ,aO]at hγ
      subst hγ h0
      exact⟨c,h2⟩
    obtain⟨c,rfl⟩:=kh;have kF:bU g ((QU.drop off).take (len*sz)) ((vs.drop off).take (len*sz)):=(hr.drop off).take _;have kS:=hr.length;have g9:((vs.drop off).take (len*sz)).length=len*sz:=cT;refine⟨_,Src.ofSlice W hu ⟨b,off,none⟩ len c _ g9 ?_ (λu jm=>QT (iO _ kF u jm)),kF,?_,iO _ kF⟩
    ·intro j u hj;obtain⟨fo,jC⟩:=wA.1 hj;simp only[uW,wF]at jC;have nY:off+j<vs.length:=by rw[g9]at fo;omega
     simp only[qt];rw[tV hh (off+j) cT,zv nY,jC]
    ·intro b9 sO;exact aJ.aD _ _ hσ b9 (K0 _ _ _ (K1 _ _ _ sO))
   ·simp at h
  ·rename_i E QU hl;split at h
   ·rename_i vq;simp only[aO,cE]at h;obtain⟨rfl,rfl,rfl⟩:=h;have hσ:=bw id be _ hl;obtain⟨b,vs,rest,hγ,hh,hr,hN,hz⟩:=aJ.df id _ hσ;have kh:∃c,v= .slice (some ⟨b,off,none⟩) len c:=by
     cases cap with
     |some c=>
      obtain⟨b',h1,h2⟩:=hv
      rw[hγ]at h1
      cases h1
      exact⟨c,h2⟩
     |none=>
      obtain⟨h0,b',c,h1,h2,_⟩:=hv
      rw[h1]at hγ
      simp only[cQ,aO]at hγ
      subst hγ h0
      exact⟨c,h2⟩
    obtain⟨c,rfl⟩:=kh;have kF:bU g ((QU.drop off).take (len*sz)) ((vs.drop off).take (len*sz)):=(hr.drop off).take _;have kS:=hr.length;have g9:((vs.drop off).take (len*sz)).length=len*sz:=cT;refine⟨_,Src.ofSlice W hu ⟨b,off,none⟩ len c _ g9 ?_ (λu jm=>QT (iO _ kF u jm)),kF,?_,iO _ kF⟩
    ·intro j u hj;obtain⟨fo,jC⟩:=wA.1 hj;simp only[uW,wF]at jC;have nY:off+j<vs.length:=by rw[g9]at fo;omega
     simp only[qt];rw[tV hh (off+j) cT,zv nY,jC]
    ·intro b9 sO;exact aJ.aD _ _ hσ b9 (K0 _ _ _ (K1 _ _ _ sO))
   ·simp at h
  ·simp at h
 ·rename_i T ys;split at h
  ·rename_i hT;simp only[aO,cE]at h;obtain⟨rfl,rfl,rfl⟩:=h;subst hT;obtain⟨us,h1,h2,h3,h4⟩:=X2 (P:=P) hv;have hlen:∀w':World,(Builtin.lenOf v).run P w'= .ok ys.length w':=by obtain⟨a,cap,rfl,_⟩:=hv;intro w';rfl
   exact⟨us,⟨.inl ⟨_,hu⟩,hlen,h1 W aJ.sub,h1 W.drew aJ.sub,h2,λu hu=>QT (h4 u hu)⟩,Yh T ys us h2 h3,by rw[Yg];simp,h4⟩
  ·simp at h
 ·simp only[aO,cE]at h;obtain⟨rfl,rfl,rfl⟩:=h;have kh:v= .slice none 0 0:=hv;subst kh;exact⟨[],Src.ofNil W hu 0,ae,by simp[cD],by simp⟩
 ·simp at h
end
section
variable{P:Program}{tt:TT}
structure aiE(P:Program)(t1 t2 E:TypeId)(sz:Nat)(bytes:Nat):Prop where
 u1:P.underlying t1=some (.slice E)
 u2:∃e,P.underlying t2=some (.slice e)
 info:∃inf z,P.info? E=some inf∧inf.size=sz∧inf.bytes=bytes∧inf.zero=some z∧z.cells.size=sz
 pos:0<sz
def Yj{st:St}{ids:List Nat}{σ:Kn}(h:∀kx∈g7 st ids,σ kx.1=some kx.2):∀id∈ids,∀b,ao id st.mem=some b→σ (.m id)=some (.b b):=by intro id al b hb;exact h (.m id,.b b) (jK.2 ⟨id,al,by simp[hb]⟩)
end
section
variable{P:Program}{tt:TT}
def aiF{a:Act}{d t:Nat}{v:Value}{wr:List (Key×Option Info)}{x:Option Info}(ht:bc ((.s d,x)::wr) (.s t)=none):(a.put (some d) v).tmps.getD t undef=a.tmps.getD t undef:=by have aR:d≠t:=tL;simp[Act.put,nT aR]
end
section
variable{P:Program}{tt:TT}
def rS(st:St):List Operand→Option (List (Bool×List C))
 |[]=>some []
 |x::xs=>(match st.ev x with
  |some v=>(match wW v,rS st xs with
   |some s,some r=>some (s::r)
   |_,_=>none)
  |none=>none)
def aiG{v:AV}{s:Bool×List C}(h:wW v=some s):cD s.2=v.aD:=by
 cases v with
 |c x=>simp only[wW,aO]at h;subst h;simp[cD,AV.aD]
 |a cs=>simp only[wW,aO]at h;subst h;rfl
 |t _=>simp[wW]at h
def HB{F:de}{known:Nat→Prop}{σ:Kn}{g:Gh}{W:World}{a:Act}(h:bJ F known σ g W a)(st:St):∀(xs:List Operand)(ss:List (Bool×List C)),rS st xs=some ss→
  (∀kx∈xs.flatMap (dU st),σ kx.1=some kx.2)→dv g ss (xs.map a.eval)∧∀id∈fJ ss,known id
 |[],ss,he,_=>by simp only[rS,aO]at he;subst he;exact⟨ae,by simp[fJ]⟩
 |x::xs,ss,he,hr=>by
  simp only[rS]at he;split at he
  ·rename_i v hv;split at he
   ·rename_i s r hs Ev;simp only[aO]at he;subst he;have h1:=gI h st x v hv (λkx aS=>hr kx jw);have h1m:=vd h st x v hv (λkx aS=>hr kx jw);obtain⟨h2,h2m⟩:=HB h st xs r Ev (λkx aS=>hr kx (by simp only[gN,b6];exact .inr aS));refine⟨⟨_,_,ae,XP hs h1,h2⟩,?_⟩;intro id al;simp only[fJ,b6]at al;rcases al with al|al
    ·rw[aiG hs]at al;exact h1m id al
    ·exact h2m id al
   ·simp at he
  ·simp at he
def aiJ{ops:Array Oper}{i:Nat}{o:Oper}{d:Nat}(ho:ops[i]? =some o)(hg:o.guard=none)(hd:o.dst=some d){n:Nat}(aV:d<n){f:FuncId}{first caps:Array Operand}(ck:o.op= .makeFunc (.func f) first caps)
  {st:St} {fs cs:List (Bool×List C)} (hf:rS st first.toList=some fs) (hc:rS st caps.toList=some cs) (new:Nat):
  mA P n ops i ((first.toList++caps.toList).flatMap (dU st)) [(.s d,some (.v (.c (.X new)))),(.m new,some (.b (.fW f fs cs)))] new:=by
 intro F gk Q known σ g W a K dX aJ bw hK
 obtain⟨Ew,Yk⟩:=HB aJ st _ _ hf (λkx aS=>bw kx (by rw[zw];exact fS _ aS))
 obtain⟨lQ,vk⟩:=HB aJ st _ _ hc (λkx aS=>bw kx (by rw[zw];exact j9 _ aS))
 have hex:(execOp a.eval o).run P W= .ok (.value (.func (.func f) (first.toList.map a.eval).toArray (caps.toList.map a.eval).toArray)) W:=by rw[execOp,ck];have e1:first.map a.eval=(first.toList.map a.eval).toArray:=wo;have e2:caps.map a.eval=(caps.toList.map a.eval).toArray:=wo;simp only[Instr.makeFunc,e1,e2];rfl
 unfold wpOp
 simp only[ho,Region.wanted,hg,cP]
 refine .inl ?_
 unfold Oper.wp
 rw[hex]
 simp only[Oper.upon,hd]
 have QL:d<a.tmps.size:=rA
 let v:Value:= .func (.func f) (first.toList.map a.eval).toArray (caps.toList.map a.eval).toArray
 let g':Gh:=⟨g.H,λid=>if id=new then v else g.γ id⟩
 have nD:g'.γ new=v:=by simp[g']
 have oO:iL known g g':=⟨cF.refl _,λid al=>by
  have:id≠new:=λe=>dX (e▸al)
  simp[g',this]⟩
 refine hK g' _ _ (aJ.step (chg:=λ_=>False) (g':=g') ⟨oO,λ_ _ _=>rfl,aJ.sub,bD _,λ_ _ _=>rfl,ae,ae,ae⟩ _ new dX sC aJ.defers (λt ht=>aiF ht) (λ_ h=>h.elim) ?_ ?_ ?_ ?_)
 ·intro t u ht;simp only[bc]at ht;split at ht
  ·rename_i e;simp only[Key.s.injEq]at e;simp only[aO,Info.v.injEq]at ht;subst e;subst ht;show _=g'.γ new;rw[nD];simp[Act.put,QL,v]
  ·simp at ht
 ·intro id b ht;simp only[bc,reduceCtorEq,cV]at ht;split at ht
  ·rename_i e;simp only[Key.m.injEq]at e;subst e;simp only[aO,Info.b.injEq]at ht;subst ht;refine⟨⟨_,_,nD,dv.mono oO Yk Ew,dv.mono oO vk lQ⟩,.inr ⟨ae,λk hk=>?_⟩⟩;rw[nD]at hk;simp[cQ,v]at hk
  ·simp at ht
 ·intro k y ht;simp only[bc]at ht;split at ht
  ·simp only[aO]at ht;subst ht;intro id al;simp[Info.aD,AV.aD,C.aD]at al;exact .inr al
  ·split at ht
   ·simp only[aO]at ht;subst ht;intro id al;rcases b6.1 al with h|h
    ·exact .inl (Yk id h)
    ·exact .inl (vk id h)
   ·simp at ht
 ·intro id y ht;simp only[bc,reduceCtorEq,cV]at ht;split at ht
  ·rename_i e;simp only[Key.m.injEq]at e;exact .inr e.symm
  ·simp at ht
end
def BX(us:List Value):Act:={tmps:=us.toArray,defers:=[]}
structure CX(P:Program)(f:FuncId)(vs:List AV)(fm:List (Nat×aK))(k:Nat)(r:AV)(fO:List (Nat×aK))(k':Nat):Prop where
 call:mD P f=true
 le:k≤k'
 spec:∀(F:de)(g:Gh)(W:World)(us:List Value),F.n=vs.length→us.length=vs.length→bJ F (·<k) (St.kn ⟨ls 0 vs,fm,0,[]⟩) g W (BX us)→
  Calls P f us.toArray W (λe W'=>∃v g',e= .returned v∧bJ {F with n:=1} (·<k') (St.kn ⟨[(0,r)],fO,0,[]⟩) g' W' (BX [v]))
def Ac(fO:List (Nat×aK)):List (Nat×aK)→List (Key×Option Info)
 |[]=>[]
 | (id,_)::r=>(.m id,(ao id fO).map .b)::Ac fO r
def ug(k:Nat):List (Nat×aK)→List (Key×Option Info)
 |[]=>[]
 | (id,b)::r=>if k≤id then(.m id,some (.b b))::ug k r else ug k r
def QV{u v:List (Key×Option Info)}{k:Key}:bc (u++v) k=match bc u k with|some x=>some x|none=>bc v k:=by
 induction u with
 |nil=>rfl
 |cons p u ih=>
  obtain⟨k',x⟩:=p
  simp only[mX,bc]
  split
  ·rfl
  ·exact ih
def QW(fO:List (Nat×aK))(t:Nat):∀fm,bc (Ac fO fm) (.s t)=none
 |[]=>rfl
 | (id,b)::r=>by simp[Ac,bc,QW fO t r]
def HC(k:Nat)(t:Nat):∀fm,bc (ug k fm) (.s t)=none
 |[]=>rfl
 | (id,b)::r=>by
  simp only[ug];split
  ·simp[bc,HC k t r]
  ·exact HC k t r
def Yl(fO:List (Nat×aK))(j:Nat):∀fm:List (Nat×aK),bc (Ac fO fm) (.m j)=if(ao j fm).isSome then some ((ao j fO).map .b)else none
 |[]=>rfl
 | (id,b)::r=>by
  simp only[Ac,bc,ao,Key.m.injEq];by_cases e:id=j
  ·simp[e]
  ·simp only[e,cV];exact Yl fO j r
def HD(k j:Nat):∀fm:List (Nat×aK),bc (ug k fm) (.m j)=if k≤j then(ao j fm).map (λb=>some (.b b))else none
 |[]=>by simp[ug,bc,ao]
 | (id,b)::r=>by
  simp only[ug,ao];by_cases h:k≤id
  ·simp only[h,cP,bc,Key.m.injEq];by_cases e:id=j
   ·subst e;simp[h]
   ·simp only[e,cV];exact HD k j r
  ·simp only[h,cV];by_cases e:id=j
   ·subst e;rw[HD k id r];simp[h]
   ·simp only[e,cV];exact HD k j r
def jn.Ex{N N':Nat→Prop}{g g':Gh}{W:World}{id:Nat}{b:aK}(h:jn N g W id b)(hN:∀k,cQ (g.γ id)=some k→N' k)(hγ:g'.γ id=g.γ id)(hH:g'.H=g.H)(hl:iL (λj=>j∈b.aD) g g'):jn N' g' W id b:=by
 cases b with
 |box E sz cs=>
  obtain⟨b,vs,rest,e,hh,hr,hn,hz,hc⟩:=h
  exact⟨b,vs,rest,by rw[hγ];exact e,hh,bU.mono hl (λj hj=>hj) hr,hN b e,by rw[hH];exact hz,by rw[hγ];exact hc⟩
 |vec E T xs=>
  rcases h with⟨e,h0⟩|⟨b,cap,vs,e,hh,h1,h2,h3,h4,hn,hz⟩
  ·exact .inl ⟨by rw[hγ];exact e,h0⟩
  ·exact .inr ⟨b,cap,vs,by rw[hγ];exact e,hh,h1,h2,h3,by rw[hH];exact h4,hN b (by rw[e];rfl),by rw[hH];exact hz⟩
 |fW f first caps=>
  obtain⟨us,ws,e,h1,h2⟩:=h
  exact⟨us,ws,by rw[hγ];exact e,dv.mono hl (λj hj=>fS _ hj) h1,dv.mono hl (λj hj=>j9 _ hj) h2⟩
 |fz E cs=>
  obtain⟨b,vs,rest,e,hh,hr,hn,hz⟩:=h
  exact⟨b,vs,rest,by rw[hγ];exact e,hh,bU.mono hl (λj hj=>hj) hr,hN b e,by rw[hH];exact hz⟩
def jn.Ey{known:Nat→Prop}{N:Nat→Prop}{g g':Gh}{W W':World}{id:Nat}{b:aK}(h:jn N g W id b)(hl:iL known g g')(al:known id)(hm:∀j∈b.aD,known j)
  (hh:∀k,cQ (g.γ id)=some k→W'.heap[k]? =W.heap[k]? ∧∀o,g'.H k o=g.H k o):jn N g' W' id b:=by
 have hγ:=hl.γ id al
 cases b with
 |box E sz cs=>
  obtain⟨b,vs,rest,e,h1,hr,hn,hz,hc⟩:=h
  exact⟨b,vs,rest,by rw[hγ];exact e,by rw[(hh b e).1];exact h1,bU.mono hl hm hr,hn,λo=>by rw[(hh b e).2];exact hz o,by rw[hγ];exact hc⟩
 |vec E T xs=>
  rcases h with⟨e,h0⟩|⟨b,cap,vs,e,h0,h1,h2,h3,h4,hn,hz⟩
  ·exact .inl ⟨by rw[hγ];exact e,h0⟩
  ·have hb:cQ (g.γ id)=some b:=by rw[e];rfl
   exact .inr ⟨b,cap,vs,by rw[hγ];exact e,by rw[(hh b hb).1];exact h0,h1,h2,h3,λi hi=>dm.mono hl.H T _ _ (h4 i hi),hn,λo=>by rw[(hh b hb).2];exact hz o⟩
 |fW f first caps=>
  obtain⟨us,ws,e,h1,h2⟩:=h
  exact⟨us,ws,by rw[hγ];exact e,dv.mono hl (λj hj=>hm j (fS _ hj)) h1,dv.mono hl (λj hj=>hm j (j9 _ hj)) h2⟩
 |fz E cs=>
  obtain⟨b,vs,rest,e,h1,hr,hn,hz⟩:=h
  exact⟨b,vs,rest,by rw[hγ];exact e,by rw[(hh b e).1];exact h1,bU.mono hl hm hr,hn,λo=>by rw[(hh b e).2];exact hz o⟩
section
variable{P:Program}{tt:TT}
def aiK{f:FuncId}{vs:List AV}{fm fO:List (Nat×aK)}{k k':Nat}{r:AV}(hf:CX P f vs fm k r fO k')(hmv:∀id∈fN vs,id<k)(pN:∀id b,ao id fm=some b→id<k∧∀j∈b.aD,j<k)(dJ:∀id∈r.aD,k≤id∨∃b,ao id fm=some b)
  (vu:∀id b,ao id fO=some b→ao id fm=some b∨∀j∈b.aD,k≤j∨∃b,ao j fm=some b)
  {Fc:de} {known:Nat→Prop} {σ:Kn} {g:Gh} {W:World} {a:Act} (aJ:bJ Fc known σ g W a) (dX:∀id,(k≤id∧id<k')→¬known id) {us:List Value} (jc:jt g vs us) (hkv:∀id∈fN vs,known id)
  (bw:∀id b,ao id fm=some b→σ (.m id)=some (.b b)) {d:Nat} (hd:d<a.tmps.size):
  Calls P f us.toArray W (λe W'=>∃v g',e= .returned v∧bJ Fc (λid=>known id∨(k≤id∧id<k')) (dI σ ((.s d,some (.v r))::(Ac fO fm++ug k fO))) g' W' (a.put (some d) v)):=by
 have g9:=z' jc
 let F:de:={w0:=W,H0:=g.H,n:=vs.length,own:=λb=>∃id bb,ao id fm=some bb∧cQ (g.γ id)=some b,k0:=k,γ0:=g.γ}
 have hN:∀b,F.N b→b<W.heap.size→Fc.N b:=by
  intro b hb br;rcases hb with hb|⟨id,bb,h1,h2⟩
  ·exact absurd hb (by show¬W.heap.size≤b;omega)
  ·exact((aJ.df id bb (bw id bb h1)).block h2).1
 have hN':∀b,F.N b→Fc.N b:=by
  intro b hb;rcases hb with hb|⟨id,bb,h1,h2⟩
  ·exact .inl (dF aJ.below.size hb)
  ·exact((aJ.df id bb (bw id bb h1)).block h2).1
 have h0:bJ F (·<k) (St.kn ⟨ls 0 vs,fm,0,[]⟩) g W (BX us):=by
  refine⟨by simp[BX,F,g9],ae,?_,?_,?_,?_,?_,aJ.sub,⟨ae,ae,ae,bD _,λ_ _ _=>rfl⟩,cF.refl _,λ_ _ _ _=>rfl,λid al=>⟨al,ae⟩⟩
  ·intro t v ht;simp only[St.kn,ct]at ht;obtain⟨x,hx,he⟩:=ht;cases he;obtain⟨_,u,hu,hr,_⟩:=pK vs us 0 jc t v hx;have jm:us[t]? =some u:=Ds;simp only[BX,wy,Ku,jm,DG];exact hr
  ·intro id b hb;simp only[St.kn,ct]at hb;obtain⟨x,hx,he⟩:=hb;cases he;exact(aJ.df id b (bw id b hx)).Ex (λkk oR=> .inr ⟨id,b,hx,oR⟩) ae ae ⟨cF.refl _,λ_ _=>rfl⟩
  ·intro id b9 b b' kk hb du h1 h2;simp only[St.kn,ct]at hb du;obtain⟨x,hx,he⟩:=hb;obtain⟨x',lT,Qq⟩:=du;cases he;cases Qq;exact aJ.inj id b9 b b' kk (bw id b hx) (bw b9 b' lT) h1 h2
  ·intro key x hx id al;cases key with
   |s t=>
    simp only[St.kn,ct]at hx
    obtain⟨y,hy,he⟩:=hx
    subst he
    obtain⟨_,_,_,_,h6⟩:=pK vs us 0 jc t y hy
    exact hmv id (h6 id al)
   |m j=>
    simp only[St.kn,ct]at hx
    obtain⟨y,hy,he⟩:=hx
    subst he
    exact(pN j y hy).2 id al
  ·intro id x hx;simp only[St.kn,ct]at hx;obtain⟨y,hy,he⟩:=hx;exact(pN id y hy).1
 refine(hf.spec F g W us ae g9 h0).mono ?_
 rintro e W' ⟨v,g',rfl,h1⟩
 refine⟨v,⟨g'.H,λid=>if k≤id∧id<k' then g'.γ id else g.γ id⟩,ae,?_⟩
 generalize Ad:(⟨g'.H,λid=>if k≤id∧id<k' then g'.γ id else g.γ id⟩:Gh)=g2
 have BY:g2.H=g'.H:=by rw[←Ad]
 have Ym:∀id,g2.γ id=if k≤id∧id<k' then g'.γ id else g.γ id:=by rw[←Ad];intro id;rfl
 have vv:∀id,id<k'→g2.γ id=g'.γ id:=by
  intro id al;rw[Ym];split
  ·rfl
  ·rename_i hn;exact(h1.iz id (by show id<k;omega)).2.symm
 have QX:iL (·<k') g' g2:=⟨by rw[BY];exact cF.refl _,λid al=>vv id al⟩
 have BZ:iL known g g2:=⟨by rw[BY];exact h1.le,λid al=>by rw[Ym,aq];intro hc;exact dX id hc al⟩
 have Yn:∀id b,ao id fm=some b→known id:=λid b hb=>aJ.fF _ _ (bw id b hb)
 have Hx:∀id,(k≤id∨∃b,ao id fm=some b)→id<k'→known id∨(k≤id∧id<k'):=by
  intro id h h2;rcases h with h|⟨b,hb⟩
  ·exact .inr ⟨h,h2⟩
  ·exact .inl (Yn id b hb)
 have Yo:∀id∈r.aD,id<k':=λid al=>h1.aD (.s 0) (.v r) (by simp[St.kn,ao]) id al
 have QY:∀kk,kk<W.heap.size→¬F.own kk→W'.heap[kk]? =W.heap[kk]? ∧∀o,g'.H kk o=g.H kk o:=λkk hk dY=>⟨h1.below.block kk hk dY,λo=>h1.fresh kk o hk dY⟩
 have DY:∀j,bc ((.s d,some (.v r))::(Ac fO fm++ug k fO)) (.m j)=if(ao j fm).isSome then some ((ao j fO).map .b)else if k≤j then(ao j fO).map (λb=>some (.b b))else none:=by
  intro j;simp only[bc,reduceCtorEq,cV,QV,Yl,HD];by_cases h:(ao j fm).isSome=true
  ·simp[h]
  ·simp[h]
 have pz:∀j b,dI σ ((.s d,some (.v r))::(Ac fO fm++ug k fO)) (.m j)=some (.b b)→(ao j fO=some b∧j<k')∨(ao j fm=none∧σ (.m j)=some (.b b)∧known j):=by
  intro j b hb;simp only[dI,DY]at hb;by_cases h:(ao j fm).isSome=true
  ·simp only[h,cP,ct]at hb;obtain⟨x,hx,he⟩:=hb;cases he;exact .inl ⟨hx,h1.fF j (.b b) (by simp[St.kn,hx])⟩
  ·have dY:ao j fm=none:=by simpa using h
   simp only[h,cV,mV]at hb;by_cases hk:k≤j
   ·simp only[hk,cP]at hb;cases hx:ao j fO with
    |none=>
     rw[hx]at hb
     simp only[Option.map_none]at hb
     exact .inr ⟨dY,hb,aJ.fF _ _ hb⟩
    |some x=>
     rw[hx]at hb
     simp only[Px,aO,Info.b.injEq]at hb
     subst hb
     exact .inl ⟨ae,h1.fF j (.b x) (by simp[St.kn,hx])⟩
   ·simp only[hk,cV]at hb;exact .inr ⟨dY,hb,aJ.fF _ _ hb⟩
 have QZ:∀j b kk,ao j fm=none→σ (.m j)=some (.b b)→cQ (g.γ j)=some kk→kk<W.heap.size∧¬F.own kk:=by intro j b kk h2 h3 h4;refine⟨((aJ.df j b h3).block h4).2,?_⟩;rintro⟨id,bb,h5,h6⟩;have:=aJ.inj j id b bb kk h3 (bw id bb h5) h4 h6;subst this;rw[h2]at h5;cases h5
 refine⟨by simp[Act.put,aJ.size],aJ.defers,?_,?_,?_,?_,?_,by rw[BY];exact h1.sub,?_,by rw[BY];exact aJ.le.trans h1.le,?_,?_⟩
 ·intro t u ht;simp only[dI,bc,QV,QW,HC]at ht;by_cases e:d=t
  ·subst e;simp only[cP,aO,Info.v.injEq]at ht;subst ht;have hr:=h1.gG 0 r (by simp[St.kn,ao]);have hv:(a.put (some d) v).tmps.getD d undef=v:=by simp[Act.put,hd]
   rw[hv];exact bP.mono QX Yo (by simpa[BX]using hr)
  ·have e':¬(Key.s d=Key.s t):=λh=>e cq
   simp only[e',cV]at ht;have hv:(a.put (some d) v).tmps.getD t undef=a.tmps.getD t undef:=by simp[Act.put,nT e]
   rw[hv];exact bP.mono BZ (λid al=>aJ.aD _ _ ht id al) (aJ.gG t u ht)
 ·intro j b hb;rcases pz j b hb with⟨h2,h3⟩|⟨h2,h3,h4⟩
  ·have jO:=h1.df j b Kg;exact jO.Ex (λkk oR=>hN' kk (jO.block oR).1) (vv j h3) BY ⟨QX.H,λi hi=>QX.γ i (h1.aD (.m j) (.b b) Kg i hi)⟩
  ·refine(aJ.df j b h3).Ey BZ h4 (λi hi=>aJ.aD _ _ h3 i hi) (λkk oR=>?_);obtain⟨h5,h6⟩:=QZ j b kk h2 h3 oR;rw[BY];exact QY kk h5 h6
 ·intro j j' b b' kk hb du gT dR;rcases pz j b hb with⟨h2,h3⟩|⟨h2,h3,h4⟩<;>rcases pz j' b' du with⟨qo,wL⟩|⟨qo,wL,rI⟩
  ·rw[vv j h3]at gT;rw[vv j' wL]at dR;exact h1.inj j j' b b' kk Kg (by simp[St.kn,qo]) gT dR
  ·exfalso;rw[vv j h3]at gT;rw[BZ.γ j' rI]at dR;obtain⟨h5,h6⟩:=QZ j' b' kk qo wL dR;rcases((h1.df j b Kg).block gT).1 with h7|h7
   ·exact absurd h7 (by show¬W.heap.size≤kk;omega)
   ·exact h6 h7
  ·exfalso;rw[vv j' wL]at dR;rw[BZ.γ j h4]at gT;obtain⟨h5,h6⟩:=QZ j b kk h2 h3 gT;rcases((h1.df j' b' (by simp[St.kn,qo])).block dR).1 with h7|h7
   ·exact absurd h7 (by show¬W.heap.size≤kk;omega)
   ·exact h6 h7
  ·rw[BZ.γ j h4]at gT;rw[BZ.γ j' rI]at dR;exact aJ.inj j j' b b' kk h3 wL gT dR
 ·intro key x hx id al;cases key with
  |s t=>
   simp only[dI,bc,QV,QW,HC]at hx
   by_cases e:d=t
   ·subst e;simp only[cP,aO]at hx;subst hx;exact Hx id (dJ id al) (Yo id al)
   ·have e':¬(Key.s d=Key.s t):=λh=>e cq
    simp only[e',cV]at hx;exact .inl (aJ.aD _ _ hx id al)
  |m j=>
   cases x with
   |v u=>
    simp only[dI,DY]at hx
    by_cases h:(ao j fm).isSome=true
    ·simp only[h,cP,ct]at hx;obtain⟨_,_,he⟩:=hx;cases he
    ·simp only[h,cV,mV]at hx;by_cases hk:k≤j
     ·simp only[hk,cP]at hx;cases hy:ao j fO with
      |none=>rw[hy]at hx;exact .inl (aJ.aD (.m j) (.v u) (by simpa using hx) id al)
      |some y=>rw[hy]at hx;simp at hx
     ·simp only[hk,cV]at hx;exact .inl (aJ.aD _ _ hx id al)
   |b b=>
    rcases pz j b hx with⟨h2,h3⟩|⟨h2,h3,h4⟩
    ·rcases vu j b h2 with h7|h7
     ·exact .inl (aJ.aD _ _ (bw j b h7) id al)
     ·exact Hx id (h7 id al) (h1.aD (.m j) (.b b) Kg id al)
    ·exact .inl (aJ.aD _ _ h3 id al)
 ·intro j x hx;simp only[dI,DY]at hx;by_cases h:(ao j fm).isSome=true
  ·obtain⟨b,hb⟩:=Option.isSome_iff_exists.1 h;exact .inl (Yn j b hb)
  ·simp only[h,cV,mV]at hx;by_cases hk:k≤j
   ·simp only[hk,cP]at hx;cases hy:ao j fO with
    |none=>rw[hy]at hx;exact .inl (aJ.fF _ _ (by simpa using hx))
    |some y=>exact .inr ⟨hk,h1.fF j (.b y) (by simp[St.kn,hy])⟩
   ·simp only[hk,cV]at hx;exact .inl (aJ.fF _ _ hx)
 ·refine⟨h1.below.os.trans aJ.below.os,h1.below.tape.trans aJ.below.tape,h1.below.output.trans aJ.below.output,dF aJ.below.size h1.below.size,λkk hk dY=>?_⟩;have br:kk<W.heap.size:=kv hk aJ.below.size;rw[←aJ.below.block kk hk dY];refine(QY kk br (λho=>?_)).1;rcases hN kk (.inr ho) br with h2|h2
  ·omega
  ·exact dY h2
 ·intro kk o hk dY;have br:kk<W.heap.size:=kv hk aJ.below.size;rw[BY,(QY kk br (λho=>?_)).2 o]
  ·exact aJ.fresh kk o hk dY
  ·rcases hN kk (.inr ho) br with h2|h2
   ·omega
   ·exact dY h2
 ·intro id al;obtain⟨h2,h3⟩:=aJ.iz id al;exact⟨.inl h2,by rw[BZ.γ id h2];exact h3⟩
end
def HE:Bool×List C→Option AV
 | (true,cs)=>some (.a cs)
 | (false,[c])=>some (.c c)
 |_=>none
def wZ:List (Bool×List C)→Option (List AV)
 |[]=>some []
 |s::r=>(match HE s,wZ r with
  |some v,some vs=>some (v::vs)
  |_,_=>none)
def Lx{g:Gh}:∀{ss:List (Bool×List C)}{vs:List AV}{us:List Value},wZ ss=some vs→dv g ss us→jt g vs us
 |[],vs,us,h,hr=>by simp only[wZ,aO]at h;subst h;exact hr
 |s::r,vs,us,h,hr=>by
  simp only[wZ]at h;split at h
  ·rename_i v Eo h1 h2;simp only[aO]at h;subst h;obtain⟨u,Q3,rfl,h3,h4⟩:=hr;refine⟨u,Q3,ae,?_,Lx h2 h4⟩;match s,h1,h3 with
   | (true,cs),h1,h3=>simp only[HE,aO]at h1;subst h1;exact h3
   | (false,[c]),h1,h3=>simp only[HE,aO]at h1;subst h1;exact h3
  ·simp at h
def Yq:∀{ss:List (Bool×List C)}{vs:List AV},wZ ss=some vs→∀id∈fN vs,id∈fJ ss
 |[],vs,h,id,al=>by simp only[wZ,aO]at h;subst h;cases al
 |s::r,vs,h,id,al=>by
  simp only[wZ]at h;split at h
  ·rename_i v Eo h1 h2;simp only[aO]at h;subst h;simp only[fN,b6]at al;simp only[fJ,b6];rcases al with al|al
   ·left;match s,h1 with
    | (true,cs),h1=>simp only[HE,aO]at h1;subst h1;exact al
    | (false,[c]),h1=>simp only[HE,aO]at h1;subst h1;simpa[cD,AV.aD]using al
   ·exact .inr (Yq h2 id al)
  ·simp at h
def jt.append{g:Gh}:∀{xs ys:List AV}{us ws:List Value},jt g xs us→jt g ys ws→jt g (xs++ys) (us++ws)
 |[],_,_,_,h,h2=>by simp only[jt]at h;subst h;exact h2
 |x::xs,_,_,_,h,h2=>by obtain⟨u,r,rfl,h1,h3⟩:=h;exact⟨u,r++_,ae,h1,jt.append h3 h2⟩
def Yr(xs ys:List AV):fN (xs++ys)=fN xs++fN ys:=by
 induction xs with
 |nil=>rfl
 |cons x xs ih=>simp[fN,ih]
section
variable{P:Program}{tt:TT}
def Q4{f:FuncId}{us caps:Array Value}{W:World}(cy:mD P f=true):(invoke (.fn (.func f) caps) us).run P W= .ok (.enter f (us++caps)) W:=by
 unfold mD at cy;cases iB:P.funcs[f]? with
 |none=>rw[iB]at cy;simp at cy
 |some fn=>
  rw[iB]at cy
  simp only[eX,bne_iff_ne,ne_eq]at cy
  have h2:fn.body≠none:=by intro hb;rw[hb]at cy;simp at cy
  simp[invoke,callFunc,iB,cy.1,h2]
end
def Ez(tt:TT)(t1 t2:Nat):Option (Nat×TI):=match ao t1 tt,ao t2 tt with
 |some a,some b=>(match a.kind,b.kind with
  | .sl E,.sl _=>(match ao E tt with
   |some ei=>if 0<ei.size then some (E,ei)else none
   |none=>none)
  |_,_=>none)
 |_,_=>none
section
variable{P:Program}{tt:TT}
def Ys(aT:cM P tt=true){t1 t2 E:Nat}{ei:TI}(h:Ez tt t1 t2=some (E,ei)):aiE P t1 t2 E ei.size ei.bytes:=by
 unfold Ez at h;split at h
 ·rename_i a b ha hb;split at h
  ·rename_i E' e2 hka Q5;split at h
   ·rename_i pL jN;split at h
    ·rename_i pM;simp only[aO,cE]at h;obtain⟨rfl,rfl⟩:=h;have h1:=(gR aT ha).kind;rw[hka]at h1;have h2:=(gR aT hb).kind;rw[Q5]at h2;obtain⟨inf,lO,s9,yh,z,yi,qw⟩:=(gR aT jN).info;have lA:=(gR aT jN).P2;refine⟨h1,⟨_,h2⟩,⟨inf,z,lO,s9,yh,yi,?_⟩,pM⟩;have:z.cells.toList.length=(pL.zero.map ZV.gj).length:=by rw[qw]
     simp only[WL,dM]at this;omega
    ·simp at h
   ·simp at h
  ·simp at h
 ·simp at h
end
def Yt(o:Oper):Bool:=match o.op with
 | .defer _=>false
 |_=>true
def rT:Code→Bool
 | .region _ ops _=>ops.toList.all Yt
 | .seq x y=>rT x&&rT y
 | .cond _ x y=>rT x&&rT y
 | .block _ x=>rT x
 | .loop x=>rT x
 | .skip=>true
 | .exit _=>true
 | .ret=>true
 |_=>false
def qG(r:Option Nat)(c:Code):Prop:=r=none∨rT c=true
def qG.seq{r:Option Nat}{x y:Code}(h:qG r (.seq x y)):qG r x∧qG r y:=by
 rcases h with h|h
 ·exact⟨.inl h,.inl h⟩
 ·simp only[rT,eX]at h;exact⟨.inr h.1,.inr h.2⟩
def qG.cond{r:Option Nat}{c:Operand}{x y:Code}(h:qG r (.cond c x y)):qG r x∧qG r y:=by
 rcases h with h|h
 ·exact⟨.inl h,.inl h⟩
 ·simp only[rT,eX]at h;exact⟨.inr h.1,.inr h.2⟩
def qG.loop{r:Option Nat}{x:Code}(h:qG r (.loop x)):qG r x:=h
def qG.region{r:Option Nat}{id:Nat}{ops:Array Oper}{d:Bool}(h:qG r (.region id ops d)):zQ r ops:=by
 intro i o ho;rcases h with h|h
 ·exact .inl h
 ·refine .inr (λc hc=>?_);simp only[rT,wG]at h;have:=h o (by rw[←Gz]at ho;exact List.mem_of_getElem? ho);simp[Yt,hc]at this
end Go.El
namespace Go.El
open Go Go.Proofs
def eC:TT:=[
 (1,⟨.other,1,8,[],[.f]⟩),
 (2,⟨.int .i64,1,8,[],[.i .i64]⟩),
 (3,⟨.int .i64,1,8,[],[.i .i64]⟩),
 (4,⟨.bool,1,1,[],[.b]⟩),
 (5,⟨.int .u8,1,1,[],[.i .u8]⟩),
 (6,⟨.int .u8,1,1,[],[.i .u8]⟩),
 (7,⟨.st,4,24,[(0,1,false),(1,1,false),(2,1,false),(3,1,false)],[.i .i64,.i .i64,.b,.i .u8]⟩),
 (8,⟨.st,4,24,[(0,1,false),(1,1,false),(2,1,false),(3,1,false)],[.i .i64,.i .i64,.b,.i .u8]⟩),
 (9,⟨.str,1,16,[],[.t]⟩),
 (10,⟨.str,1,16,[],[.t]⟩),
 (11,⟨.str,1,16,[],[.t]⟩),
 (12,⟨.int .u64,1,8,[],[.i .u64]⟩),
 (13,⟨.st,2,24,[(0,1,false),(1,1,false)],[.t,.i .u64]⟩),
 (14,⟨.st,2,24,[(0,1,false),(1,1,false)],[.t,.i .u64]⟩),
 (15,⟨.other,1,8,[],[.p]⟩),
 (16,⟨.other,1,8,[],[.p]⟩),
 (17,⟨.other,1,8,[],[.p]⟩),
 (18,⟨.st,1,8,[(0,1,false)],[.p]⟩),
 (19,⟨.st,1,8,[(0,1,false)],[.p]⟩),
 (21,⟨.int .i32,1,4,[],[.i .i32]⟩),
 (22,⟨.sl 25,1,24,[],[.s]⟩),
 (23,⟨.int .u32,1,4,[],[.i .u32]⟩),
 (24,⟨.other,1,8,[],[.f]⟩),
 (25,⟨.int .u64,1,8,[],[.i .u64]⟩),
 (26,⟨.other,1,8,[],[.f]⟩),
 (27,⟨.other,1,8,[],[.f]⟩),
 (28,⟨.sl 33,1,24,[],[.s]⟩),
 (29,⟨.int .i64,1,8,[],[.i .i64]⟩),
 (31,⟨.other,1,8,[],[.f]⟩),
 (32,⟨.st,2,32,[(0,1,false),(1,1,false)],[.s,.i .i64]⟩),
 (33,⟨.st,2,32,[(0,1,false),(1,1,false)],[.s,.i .i64]⟩),
 (34,⟨.other,1,8,[],[.f]⟩),
 (35,⟨.other,1,8,[],[.f]⟩),
 (36,⟨.other,1,8,[],[.f]⟩),
 (37,⟨.other,1,8,[],[.f]⟩),
 (38,⟨.sl 86,1,24,[],[.s]⟩),
 (39,⟨.sl 46,1,24,[],[.s]⟩),
 (40,⟨.sl 46,1,24,[],[.s]⟩),
 (41,⟨.other,1,8,[],[.f]⟩),
 (42,⟨.sl 23,1,24,[],[.s]⟩),
 (43,⟨.st,2,32,[(0,1,false),(1,1,false)],[.b,.s]⟩),
 (44,⟨.st,2,32,[(0,1,false),(1,1,false)],[.b,.s]⟩),
 (45,⟨.st,4,64,[(0,2,true),(2,2,true)],[.b,.s,.b,.s]⟩),
 (46,⟨.st,4,64,[(0,2,true),(2,2,true)],[.b,.s,.b,.s]⟩),
 (47,⟨.sl 80,1,24,[],[.s]⟩),
 (48,⟨.st,6,96,[(0,4,true),(4,1,false),(5,1,false)],[.b,.s,.b,.s,.s,.i .i64]⟩),
 (49,⟨.st,6,96,[(0,4,true),(4,1,false),(5,1,false)],[.b,.s,.b,.s,.s,.i .i64]⟩),
 (50,⟨.other,1,8,[],[.f]⟩),
 (52,⟨.other,1,8,[],[.f]⟩),
 (53,⟨.other,1,8,[],[.f]⟩),
 (54,⟨.other,1,8,[],[.f]⟩),
 (55,⟨.other,1,8,[],[.f]⟩),
 (56,⟨.other,1,8,[],[.f]⟩),
 (57,⟨.sl 44,1,24,[],[.s]⟩),
 (58,⟨.other,1,8,[],[.f]⟩),
 (59,⟨.other,1,8,[],[.f]⟩),
 (60,⟨.sl 22,1,24,[],[.s]⟩),
 (61,⟨.sl 57,1,24,[],[.s]⟩),
 (63,⟨.other,1,8,[],[.f]⟩),
 (64,⟨.other,1,8,[],[.f]⟩),
 (65,⟨.other,1,8,[],[.f]⟩),
 (66,⟨.other,1,8,[],[.f]⟩),
 (67,⟨.other,1,8,[],[.f]⟩),
 (68,⟨.st,3,56,[(0,1,false),(1,1,false),(2,1,false)],[.s,.s,.i .u64]⟩),
 (69,⟨.st,3,56,[(0,1,false),(1,1,false),(2,1,false)],[.s,.s,.i .u64]⟩),
 (70,⟨.other,1,8,[],[.f]⟩),
 (71,⟨.other,1,8,[],[.f]⟩),
 (72,⟨.other,1,8,[],[.f]⟩),
 (73,⟨.other,1,8,[],[.f]⟩),
 (74,⟨.other,1,8,[],[.f]⟩),
 (75,⟨.other,1,8,[],[.f]⟩),
 (76,⟨.other,1,8,[],[.f]⟩),
 (77,⟨.other,1,8,[],[.f]⟩),
 (78,⟨.other,1,8,[],[.f]⟩),
 (79,⟨.st,2,32,[(0,1,false),(1,1,false)],[.s,.i .i64]⟩),
 (80,⟨.st,2,32,[(0,1,false),(1,1,false)],[.s,.i .i64]⟩),
 (81,⟨.other,1,8,[],[.f]⟩),
 (82,⟨.other,1,8,[],[.f]⟩),
 (83,⟨.other,1,8,[],[.f]⟩),
 (84,⟨.other,1,8,[],[.f]⟩),
 (85,⟨.other,1,8,[],[.f]⟩),
 (86,⟨.int .i8,1,1,[],[.i .i8]⟩),
 (88,⟨.other,1,8,[],[.f]⟩),
 (89,⟨.other,1,8,[],[.f]⟩),
 (90,⟨.other,1,8,[],[.f]⟩),
 (91,⟨.other,1,8,[],[.f]⟩),
 (92,⟨.other,1,8,[],[.f]⟩),
 (93,⟨.other,1,8,[],[.f]⟩),
 (94,⟨.other,1,8,[],[.f]⟩),
 (95,⟨.other,1,8,[],[.f]⟩),
 (96,⟨.other,1,8,[],[.f]⟩),
 (98,⟨.other,1,8,[],[.f]⟩),
 (99,⟨.other,1,8,[],[.f]⟩),
 (100,⟨.st,2,32,[(0,1,false),(1,1,false)],[.s,.i .u64]⟩),
 (101,⟨.st,2,32,[(0,1,false),(1,1,false)],[.s,.i .u64]⟩),
 (102,⟨.other,1,8,[],[.f]⟩),
 (103,⟨.other,1,8,[],[.f]⟩),
 (104,⟨.other,1,8,[],[.f]⟩),
 (105,⟨.other,1,8,[],[.f]⟩),
 (106,⟨.other,1,8,[],[.f]⟩),
 (107,⟨.other,1,8,[],[.f]⟩),
 (108,⟨.other,1,8,[],[.f]⟩),
 (109,⟨.other,1,8,[],[.f]⟩),
 (110,⟨.other,1,8,[],[.f]⟩),
 (111,⟨.sl 40,1,24,[],[.s]⟩),
 (112,⟨.other,1,8,[],[.f]⟩),
 (113,⟨.other,1,8,[],[.f]⟩),
 (114,⟨.other,1,8,[],[.f]⟩),
 (116,⟨.other,1,8,[],[.f]⟩),
 (117,⟨.other,1,8,[],[.f]⟩),
 (118,⟨.other,1,8,[],[.f]⟩),
 (119,⟨.st,2,48,[(0,1,false),(1,1,false)],[.s,.s]⟩),
 (120,⟨.st,2,48,[(0,1,false),(1,1,false)],[.s,.s]⟩),
 (121,⟨.other,1,8,[],[.f]⟩),
 (122,⟨.other,1,8,[],[.f]⟩),
 (123,⟨.other,1,8,[],[.f]⟩),
 (124,⟨.other,1,8,[],[.f]⟩),
 (125,⟨.sl 101,1,24,[],[.s]⟩),
 (126,⟨.other,1,8,[],[.f]⟩),
 (127,⟨.other,1,8,[],[.f]⟩),
 (128,⟨.other,1,8,[],[.f]⟩),
 (129,⟨.other,1,8,[],[.f]⟩),
 (130,⟨.other,1,8,[],[.f]⟩),
 (131,⟨.other,1,8,[],[.f]⟩),
 (132,⟨.other,1,8,[],[.f]⟩),
 (134,⟨.other,1,8,[],[.f]⟩),
 (135,⟨.other,1,8,[],[.f]⟩),
 (136,⟨.other,1,8,[],[.f]⟩),
 (137,⟨.other,1,8,[],[.f]⟩),
 (138,⟨.other,1,8,[],[.f]⟩),
 (139,⟨.other,1,8,[],[.f]⟩),
 (140,⟨.other,1,8,[],[.f]⟩),
 (141,⟨.other,1,8,[],[.f]⟩),
 (142,⟨.other,1,8,[],[.f]⟩),
 (143,⟨.other,1,8,[],[.f]⟩),
 (144,⟨.other,1,8,[],[.f]⟩),
 (145,⟨.other,1,8,[],[.f]⟩),
 (146,⟨.arr 4 25,4,32,[],[.i .u64,.i .u64,.i .u64,.i .u64]⟩),
 (147,⟨.other,1,8,[],[.f]⟩),
 (148,⟨.other,1,8,[],[.f]⟩),
 (149,⟨.other,1,8,[],[.f]⟩),
 (151,⟨.other,1,8,[],[.f]⟩),
 (152,⟨.other,1,8,[],[.f]⟩),
 (153,⟨.other,1,8,[],[.f]⟩),
 (154,⟨.other,1,8,[],[.f]⟩),
 (155,⟨.int .u64,1,8,[],[.i .u64]⟩),
 (156,⟨.other,1,8,[],[.f]⟩),
 (157,⟨.other,1,8,[],[.f]⟩),
 (158,⟨.other,1,8,[],[.f]⟩),
 (159,⟨.other,1,8,[],[.f]⟩),
 (160,⟨.other,1,8,[],[.f]⟩),
 (161,⟨.other,1,8,[],[.f]⟩),
 (162,⟨.other,1,8,[],[.f]⟩),
 (163,⟨.other,1,8,[],[.f]⟩),
 (164,⟨.other,1,8,[],[.f]⟩),
 (166,⟨.other,1,8,[],[.f]⟩),
 (167,⟨.other,1,8,[],[.f]⟩),
 (168,⟨.other,1,8,[],[.f]⟩),
 (170,⟨.other,1,8,[],[.f]⟩),
 (171,⟨.other,1,8,[],[.f]⟩),
 (172,⟨.other,1,8,[],[.f]⟩),
 (173,⟨.other,1,8,[],[.f]⟩),
 (174,⟨.st,2,48,[(0,1,false),(1,1,false)],[.s,.s]⟩),
 (175,⟨.st,2,48,[(0,1,false),(1,1,false)],[.s,.s]⟩),
 (176,⟨.other,1,8,[],[.f]⟩),
 (177,⟨.other,1,8,[],[.f]⟩),
 (178,⟨.other,1,8,[],[.f]⟩),
 (179,⟨.other,1,8,[],[.f]⟩),
 (180,⟨.other,1,8,[],[.f]⟩),
 (181,⟨.other,1,8,[],[.f]⟩),
 (182,⟨.other,1,8,[],[.f]⟩),
 (183,⟨.other,1,8,[],[.f]⟩),
 (184,⟨.other,1,8,[],[.f]⟩),
 (185,⟨.other,1,8,[],[.f]⟩),
 (186,⟨.other,1,8,[],[.f]⟩),
 (187,⟨.int .i64,1,8,[],[.i .i64]⟩),
 (189,⟨.other,1,8,[],[.f]⟩),
 (190,⟨.other,1,8,[],[.f]⟩),
 (191,⟨.other,1,8,[],[.f]⟩),
 (193,⟨.other,1,8,[],[.f]⟩),
 (194,⟨.other,1,8,[],[.f]⟩),
 (195,⟨.other,1,8,[],[.f]⟩),
 (196,⟨.other,1,8,[],[.f]⟩),
 (197,⟨.other,1,8,[],[.f]⟩),
 (198,⟨.other,1,8,[],[.f]⟩),
 (199,⟨.other,1,8,[],[.f]⟩),
 (201,⟨.other,1,8,[],[.f]⟩),
 (202,⟨.other,1,8,[],[.f]⟩),
 (203,⟨.other,1,8,[],[.f]⟩),
 (204,⟨.other,1,8,[],[.f]⟩),
 (205,⟨.other,1,8,[],[.f]⟩),
 (206,⟨.other,1,8,[],[.f]⟩),
 (207,⟨.other,1,8,[],[.f]⟩),
 (208,⟨.other,1,8,[],[.f]⟩),
 (209,⟨.other,1,8,[],[.f]⟩),
 (210,⟨.other,1,8,[],[.f]⟩),
 (212,⟨.other,1,8,[],[.f]⟩),
 (213,⟨.other,1,8,[],[.f]⟩),
 (214,⟨.other,1,8,[],[.f]⟩),
 (215,⟨.other,1,8,[],[.f]⟩),
 (216,⟨.other,1,8,[],[.f]⟩),
 (217,⟨.other,1,8,[],[.f]⟩),
 (218,⟨.other,1,8,[],[.f]⟩),
 (219,⟨.sl 3,1,24,[],[.s]⟩),
 (220,⟨.other,1,8,[],[.f]⟩),
 (221,⟨.other,1,8,[],[.f]⟩),
 (222,⟨.int .u64,1,8,[],[.i .u64]⟩),
 (223,⟨.other,1,8,[],[.f]⟩),
 (224,⟨.other,1,8,[],[.f]⟩),
 (225,⟨.other,1,8,[],[.f]⟩),
 (226,⟨.other,1,8,[],[.p]⟩),
 (227,⟨.other,1,8,[],[.f]⟩),
 (228,⟨.other,1,8,[],[.f]⟩),
 (229,⟨.other,1,8,[],[.f]⟩),
 (230,⟨.other,1,8,[],[.f]⟩),
 (231,⟨.other,1,8,[],[.f]⟩),
 (232,⟨.other,1,8,[],[.f]⟩),
 (233,⟨.other,1,8,[],[.f]⟩),
 (234,⟨.other,1,8,[],[.f]⟩),
 (235,⟨.other,1,8,[],[.f]⟩),
 (236,⟨.other,1,8,[],[.f]⟩),
 (237,⟨.other,1,8,[],[.f]⟩),
 (238,⟨.other,1,8,[],[.f]⟩),
 (239,⟨.other,1,8,[],[.f]⟩),
 (240,⟨.other,1,8,[],[.f]⟩),
 (241,⟨.other,1,8,[],[.f]⟩),
 (242,⟨.other,1,8,[],[.p]⟩),
 (244,⟨.other,1,8,[],[.f]⟩),
 (245,⟨.other,1,8,[],[.f]⟩),
 (246,⟨.other,1,8,[],[.f]⟩),
 (247,⟨.other,1,8,[],[.f]⟩),
 (248,⟨.other,1,8,[],[.f]⟩),
 (250,⟨.other,1,8,[],[.f]⟩),
 (251,⟨.other,1,8,[],[.f]⟩),
 (252,⟨.other,1,8,[],[.f]⟩),
 (253,⟨.other,1,8,[],[.f]⟩),
 (254,⟨.other,1,8,[],[.f]⟩),
 (255,⟨.other,1,8,[],[.f]⟩),
 (256,⟨.other,1,8,[],[.f]⟩),
 (257,⟨.st,4,40,[(0,1,false),(1,1,false),(2,1,false),(3,1,false)],[.p,.p,.p,.t]⟩),
 (258,⟨.st,4,40,[(0,1,false),(1,1,false),(2,1,false),(3,1,false)],[.p,.p,.p,.t]⟩),
 (259,⟨.arr 0 16,0,0,[],[]⟩),
 (262,⟨.int .u8,1,1,[],[.i .u8]⟩),
 (263,⟨.int .u8,1,1,[],[.i .u8]⟩),
 (264,⟨.other,1,8,[],[.f]⟩),
 (265,⟨.other,1,8,[],[.p]⟩),
 (266,⟨.int .i32,1,4,[],[.i .i32]⟩),
 (267,⟨.int .i32,1,4,[],[.i .i32]⟩),
 (268,⟨.st,11,48,[(0,1,false),(1,1,false),(2,1,false),(3,1,false),(4,1,false),(5,1,false),(6,1,false),(7,1,false),(8,1,false),(9,1,false),(10,1,false)],[.i .u64,.i .u64,.i .u32,.i .u8,.i .u8,.i .u8,.i .u8,.f,.p,.i .i32,.i .i32]⟩),
 (269,⟨.st,11,48,[(0,1,false),(1,1,false),(2,1,false),(3,1,false),(4,1,false),(5,1,false),(6,1,false),(7,1,false),(8,1,false),(9,1,false),(10,1,false)],[.i .u64,.i .u64,.i .u32,.i .u8,.i .u8,.i .u8,.i .u8,.f,.p,.i .i32,.i .i32]⟩)]
def ar:cM Tryz.prog eC=true:=fR
def MX:Tryz.prog.follows .mixedOrders=true:=fR
abbrev aE:ET:= .int .u32
abbrev aM:ET:= .int .u64
abbrev dZ:ET:= .int .i64
abbrev I8:ET:= .int .i8
abbrev cI(n:Int):AV:= .c (.I .i64 n)
abbrev cU(n:Int):AV:= .c (.I .u64 n)
abbrev cW(n:Int):AV:= .c (.I .u32 n)
abbrev cB(b:Bool):AV:= .c (.B b)
abbrev cS(T:ET)(xs:List T.den):AV:= .c (.S T xs)
abbrev aZ(z:Int):AV:= .a (av .z z)
abbrev aQ(q:Rat):AV:= .a (av .q q)
section
variable{n:Nat}{Q:fG}{sl sl':List (Nat×AV)}{mem mem':List (Nat×aK)}{nx:Nat}{gd gd':List (Nat×Bool)}{id:Nat}{ops:Array Oper}{draw:Bool}{y:Code}{p:Pr}{ks cp:List Ks}{i i' n0 cd:Nat}
def rr(h:runs eC n nx draw ops.toList ops.toList 0 ⟨sl,mem,nx,gd⟩ .t []=([],i',⟨sl',mem',n0,gd'⟩,p,ks))(hk:TR Tryz.prog n y ⟨sl',mem',nx+1,[]⟩ Q)
  (hp:p:=by first|trivial| (simp only[Pr.an,Pr.h,num,aA,true_and,and_true];first|done|omega)| (simp[Pr.an,Pr.h,num,aA];done)| (simp[Pr.an,Pr.h,num,aA];omega)) (ho:(!draw||tX ops.toList ks)=true:=by kernel_rfl) (cR:Nat.ble ops.size 1000=true:=by rfl):TR Tryz.prog n (.seq (.region id ops draw) y) ⟨sl,mem,nx,gd⟩ Q:=
 aj (Li MX (jE ar h hp (Hm hk ho cR)))
def rt(h:runs eC n nx draw ops.toList ops.toList 0 ⟨sl,mem,nx,gd⟩ .t []=([],i',⟨sl',mem',n0,gd'⟩,p,ks))(hk:gq n .normal ⟨sl',mem',nx+1,[]⟩ Q)
  (hp:p:=by first|trivial| (simp only[Pr.an,Pr.h,num,aA,true_and,and_true];first|done|omega)| (simp[Pr.an,Pr.h,num,aA];done)| (simp[Pr.an,Pr.h,num,aA];omega)) (ho:(!draw||tX ops.toList ks)=true:=by kernel_rfl) (cR:Nat.ble ops.size 1000=true:=by rfl):TR Tryz.prog n (.region id ops draw) ⟨sl,mem,nx,gd⟩ Q:=
 Li MX (jE ar h hp (Hm hk ho cR))
def rb(h:RG Tryz.prog n ops draw nx 0 ops.toList ⟨sl,mem,nx,gd⟩ [] (λst'=>TR Tryz.prog n y st' Q)):TR Tryz.prog n (.seq (.region id ops draw) y) ⟨sl,mem,nx,gd⟩ Q:=aj (Li MX h)
def cK(h:RG Tryz.prog n ops draw nx 0 ops.toList ⟨sl,mem,nx,gd⟩ [] (λst'=>gq n .normal st' Q)):TR Tryz.prog n (.region id ops draw) ⟨sl,mem,nx,gd⟩ Q:=Li MX h
variable{R:St→Prop}{os:List Oper}{d f:Nat}{args:Array Operand}{dn:Array TypeId}{ty:TypeId}{pos:String}{cJ:Array Edge}{cG:List Oper}{vs:List AV}{r:AV}
def rc(h:runs eC n nx draw ops.toList os i ⟨sl,mem,n0,gd⟩ .t ks=(⟨some d,.call ⟨.value (.func f),args,dn⟩,ty,pos,cJ,none⟩::cG,i',⟨sl',mem',cd,gd'⟩,p,cp))(hv:kH ⟨sl',mem',cd,gd'⟩ args.toList=some vs)(hf:aG Tryz.prog f vs r)
  (hk:RG Tryz.prog n ops draw nx (i'+1) cG ⟨(d,r)::sl',mem',cd,gd'⟩ (fp draw cp (cH args.toList,[.s d])) R)
  (hp:p:=by first|trivial| (simp only[Pr.an,Pr.h,num,aA,true_and,and_true];first|done|omega)| (simp[Pr.an,Pr.h,num,aA];done)| (simp[Pr.an,Pr.h,num,aA];omega)) (hm:fN vs=[]:=by rfl) (aV:Nat.blt d n=true:=by rfl):RG Tryz.prog n ops draw nx i os ⟨sl,mem,n0,gd⟩ ks R:=
 jE ar h hp (ah6 hv hf hk hm aV)
def fj{j tg:Nat}{want b:Bool}(h:runs eC n nx draw ops.toList os i ⟨sl,mem,n0,gd⟩ .t ks=(⟨some d,.call ⟨.value (.func f),args,dn⟩,ty,pos,cJ,some (j,want)⟩::cG,i',⟨sl',mem',cd,gd'⟩,p,cp))(hj:wS ops.toList j=some tg)(hb:ao tg sl'=some (.c (.B b)))(vi:b=want)(hv:kH ⟨sl',mem',cd,gd'⟩ args.toList=some vs)(hf:aG Tryz.prog f vs r)
  (hk:RG Tryz.prog n ops draw nx (i'+1) cG ⟨(d,r)::sl',mem',cd,gd'⟩ (fp draw cp (.s tg::cH args.toList,[.s d])) R)
  (hp:p:=by first|trivial| (simp only[Pr.an,Pr.h,num,aA,true_and,and_true];first|done|omega)| (simp[Pr.an,Pr.h,num,aA];done)| (simp[Pr.an,Pr.h,num,aA];omega)) (hm:fN vs=[]:=by rfl) (aV:Nat.blt d n=true:=by rfl):RG Tryz.prog n ops draw nx i os ⟨sl,mem,n0,gd⟩ ks R:=
 jE ar h hp (ah7 hj hb vi hv hf hk hm aV)
def re(h:runs eC n nx draw ops.toList os i ⟨sl,mem,n0,gd⟩ .t ks=([],i',⟨sl',mem',cd,gd'⟩,p,cp))(hk:R ⟨sl',mem',nx+1,[]⟩)
  (hp:p:=by first|trivial| (simp only[Pr.an,Pr.h,num,aA,true_and,and_true];first|done|omega)| (simp[Pr.an,Pr.h,num,aA];done)| (simp[Pr.an,Pr.h,num,aA];omega)) (ho:(!draw||tX ops.toList cp)=true:=by kernel_rfl) (cR:Nat.ble ops.size 1000=true:=by rfl):RG Tryz.prog n ops draw nx i os ⟨sl,mem,n0,gd⟩ ks R:=
 jE ar h hp (Hm hk ho cR)
def rg(t:Nat){b:Bool}{o:Oper}(h:runs eC n nx draw ops.toList os i ⟨sl,mem,n0,gd⟩ .t ks=(o::cG,i',⟨sl',mem',cd,gd'⟩,p,cp))(hb:ao t sl'=some (.c (.B b)))
  (ht:b=true→RG Tryz.prog n ops draw nx i' (o::cG) ⟨(t,.c (.B true))::sl',mem',cd,(t,true)::gd'⟩ cp R) (hf:b=false→RG Tryz.prog n ops draw nx i' (o::cG) ⟨(t,.c (.B false))::sl',mem',cd,(t,false)::gd'⟩ cp R)
  (hp:p:=by first|trivial| (simp only[Pr.an,Pr.h,num,aA,true_and,and_true];first|done|omega)| (simp[Pr.an,Pr.h,num,aA];done)| (simp[Pr.an,Pr.h,num,aA];omega)):RG Tryz.prog n ops draw nx i os ⟨sl,mem,n0,gd⟩ ks R:=
 jE ar h hp (ah8 t hb ht hf)
def rm{t:Nat}{x:Operand}(T:ET)(m:Nat)(h:runs eC n nx draw ops.toList os i ⟨sl,mem,n0,gd⟩ .t ks=(⟨some d,.makeSlice t x x,ty,pos,cJ,none⟩::cG,i',⟨sl',mem',cd,gd'⟩,p,cp)){k:IntKind}{v:Int}(hx:St.ev ⟨sl',mem',cd,gd'⟩ x=some (.c (.I k v))){E:Nat}{ti ei:TI}(fA:ao t eC=some ti)(hkd:ti.kind= .sl E)(jN:ao E eC=some ei)(kR:ei.size=T.n)
  (hz:∀g:Gh,bU g (av T T.eR) (ei.zero.map ZV.gj)) (hv:v=(m:Int)) (hb:m*ei.bytes≤281474976710656) (dO:m*T.n≤140737488355328)
  (hk:RG Tryz.prog n ops draw nx (i'+1) cG ⟨(d,.c (.X (1000000*nx+1000*i')))::sl',(1000000*nx+1000*i',.vec E T (List.replicate m T.eR))::mem',cd,gd'⟩ (fp draw cp (cH [x,x],[.s d,.m (1000000*nx+1000*i')])) R)
  (hp:p:=by first|trivial| (simp only[Pr.an,Pr.h,num,aA,true_and,and_true];first|done|omega)| (simp[Pr.an,Pr.h,num,aA];done)| (simp[Pr.an,Pr.h,num,aA];omega)) (aV:Nat.blt d n=true:=by rfl):RG Tryz.prog n ops draw nx i os ⟨sl,mem,n0,gd⟩ ks R:=
 jE ar h hp (aie ar T m hx hv fA hkd jN kR hz hb dO hk aV)
end
def lU(k:IntKind)(g:Gh):bU g (av (.int k) (ET.eR (.int k))) ([ZV.i k].map ZV.gj):=⟨_,_,ae,ae,ae⟩
def Yu(H:FH):DQ H [] (.slice none 0 0):=⟨none,0,ae,bD _,by simp,.inl ae⟩
def B0(g:Gh):bU g (av .z (0:Int)) ([ZV.b,ZV.s].map ZV.gj):=KP ⟨_,ae,Yu _⟩
def Ly(g:Gh):bU g (av (.pr .z .z) ((0,0):Int×Int)) ([ZV.b,ZV.s,ZV.b,ZV.s].map ZV.gj):=bU.append (B0 g) (B0 g)
def aiQ(T:ET)(g:Gh):bU g (av (.sl T) []) ([ZV.s].map ZV.gj):=⟨_,_,ae,⟨none,0,ae,bD _,by simp,.inl ae⟩,ae⟩
section
variable{n:Nat}{sl sl':List (Nat×AV)}{mem mem':List (Nat×aK)}{nx:Nat}{gd gd':List (Nat×Bool)}{ops:Array Oper}{draw:Bool}{p:Pr}{ks cp:List Ks}{i i' n0 cd:Nat}
variable{R:St→Prop}{os:List Oper}{d:Nat}{ty:TypeId}{pos:String}{cJ:Array Edge}{cG:List Oper}
def rl(T:ET)(xs:List T.den){t len:Nat}{parts:Array (Nat×Operand)}(h:runs eC n nx draw ops.toList os i ⟨sl,mem,n0,gd⟩ .t ks=(⟨some d,.buildSlice t len parts,ty,pos,cJ,none⟩::cG,i',⟨sl',mem',cd,gd'⟩,p,cp)){E:Nat}{ei:TI}(hv:BU eC ⟨sl',mem',cd,gd'⟩ t len parts.toList=some (E,ei,xs.flatMap (av T)))
  (hk:RG Tryz.prog n ops draw nx (i'+1) cG ⟨(d,.c (.S T xs))::sl',mem',cd,gd'⟩ (fp draw cp (cH (Op.buildSlice t len parts).operands.toList,[.s d])) R) (hT:ei.size=T.n:=by rfl) (n7:xs.length=len:=by rfl) (tc:Nat.ble (len*T.n) 16777216=true:=by rfl)
  (hp:p:=by first|trivial| (simp only[Pr.an,Pr.h,num,aA,true_and,and_true];first|done|omega)| (simp[Pr.an,Pr.h,num,aA];done)| (simp[Pr.an,Pr.h,num,aA];omega)) (aV:Nat.blt d n=true:=by rfl):RG Tryz.prog n ops draw nx i os ⟨sl,mem,n0,gd⟩ ks R:=
 jE ar h hp (aih ar T xs hv hT n7 tc hk aV)
def yr(T:ET)(xs:List T.den){t len:Nat}{parts:Array (Nat×Operand)}(h:runs eC n nx draw ops.toList os i ⟨sl,mem,n0,gd⟩ .t ks=(⟨some d,.buildSlice t len parts,ty,pos,cJ,none⟩::cG,i',⟨sl',mem',cd,gd'⟩,p,cp)){E:Nat}{ei:TI}(hv:BU eC ⟨sl',mem',cd,gd'⟩ t len parts.toList=some (E,ei,xs.flatMap (av T)))
  (hk:RG Tryz.prog n ops draw nx (i'+1) cG ⟨(d,.c (.X (1000000*nx+1000*i')))::sl',(1000000*nx+1000*i',.vec E T xs)::mem',cd,gd'⟩ (fp draw cp (cH (Op.buildSlice t len parts).operands.toList,[.s d,.m (1000000*nx+1000*i')])) R) (hT:ei.size=T.n:=by rfl) (n7:xs.length=len:=by rfl) (tc:Nat.ble (len*T.n) 16777216=true:=by rfl)
  (hp:p:=by first|trivial| (simp only[Pr.an,Pr.h,num,aA,true_and,and_true];first|done|omega)| (simp[Pr.an,Pr.h,num,aA];done)| (simp[Pr.an,Pr.h,num,aA];omega)) (aV:Nat.blt d n=true:=by rfl):RG Tryz.prog n ops draw nx i os ⟨sl,mem,n0,gd⟩ ks R:=
 jE ar h hp (aii ar T xs hv hT n7 tc hk aV)
def lV{t:Nat}{x y:Operand}{id m k:Nat}{E:TypeId}{T:ET}{xs:List T.den}{vy:AV}{ag:Bool}(e:T.den)(h:runs eC n nx draw ops.toList os i ⟨sl,mem,n0,gd⟩ .t ks=(⟨none,.store t x y,ty,pos,cJ,none⟩::cG,i',⟨sl',mem',cd,gd'⟩,p,cp))
  (hx:St.ev ⟨sl',mem',cd,gd'⟩ x=some (.c (.Y id m k 0))) (hl:ao id mem'=some (.vec E T xs)) (hy:St.ev ⟨sl',mem',cd,gd'⟩ y=some vy) (dQ:js vy=some (av T e)) (hk:k<xs.length)
  (hr:RG Tryz.prog n ops draw nx (i'+1) cG ⟨sl',(id,.vec E T (xs.set k e))::mem',cd,gd'⟩ (fp draw cp (cH [x,y]++fB [id],[.m id])) R) (hm:T.n=m:=by rfl) (ki:qv eC t=some (m,ag):=by rfl)
  (hp:p:=by first|trivial| (simp only[Pr.an,Pr.h,num,aA,true_and,and_true];first|done|omega)| (simp[Pr.an,Pr.h,num,aA];done)| (simp[Pr.an,Pr.h,num,aA];omega)):RG Tryz.prog n ops draw nx i os ⟨sl,mem,n0,gd⟩ ks R:=
 jE ar h hp (BT ar hx hl hy hm ki e dQ hk hr)
def ra{x y:Operand}{t1 t2:TypeId}{id:Nat}{E E2:TypeId}{T:ET}{xs ys:List T.den}{ti rR ei:TI}(h:runs eC n nx draw ops.toList os i ⟨sl,mem,n0,gd⟩ .t ks=(⟨some d,.call ⟨.builtin .append,#[x,y],#[t1,t2]⟩,ty,pos,cJ,none⟩::cG,i',⟨sl',mem',cd,gd'⟩,p,cp))
  (hx:St.ev ⟨sl',mem',cd,gd'⟩ x=some (.c (.X id))) (hl:ao id mem'=some (.vec E T xs)) (hy:St.ev ⟨sl',mem',cd,gd'⟩ y=some (.c (.S T ys))) (fA:ao t1 eC=some ti) (hk:ti.kind= .sl E) (yo:ao t2 eC=some rR) (dR:rR.kind= .sl E2) (jN:ao E eC=some ei)
  (hb:((xs.length+ys.length)+(xs.length+ys.length)/4+192)*ei.bytes≤281474976710656) (dO:(xs.length+ys.length)*T.n≤140737488355328)
  (hr:RG Tryz.prog n ops draw nx (i'+1) cG ⟨(d,.c (.X (1000000*nx+1000*i')))::sl',(1000000*nx+1000*i',.vec E T (xs++ys))::wR id mem',cd,gd'⟩ (fp draw cp (cH [x,y]++fB [id],[.s d,.m (1000000*nx+1000*i'),.m id])) R) (kR:ei.size=T.n:=by rfl) (lA:ei.zero.length=T.n:=by rfl)
  (hp:p:=by first|trivial| (simp only[Pr.an,Pr.h,num,aA,true_and,and_true];first|done|omega)| (simp[Pr.an,Pr.h,num,aA];done)| (simp[Pr.an,Pr.h,num,aA];omega)) (aV:Nat.blt d n=true:=by rfl):RG Tryz.prog n ops draw nx i os ⟨sl,mem,n0,gd⟩ ks R:=
 jE ar h hp (aiu ar hx hl hy fA hk yo dR jN kR lA hb dO hr aV)
def Q6{x y:Operand}{t1 t2:TypeId}{E E2:TypeId}{T:ET}{ys:List T.den}{ti rR ei:TI}(h:runs eC n nx draw ops.toList os i ⟨sl,mem,n0,gd⟩ .t ks=(⟨some d,.call ⟨.builtin .append,#[x,y],#[t1,t2]⟩,ty,pos,cJ,none⟩::cG,i',⟨sl',mem',cd,gd'⟩,p,cp))
  (hx:St.ev ⟨sl',mem',cd,gd'⟩ x=some (.c (.V (.slice none 0 0)))) (hy:St.ev ⟨sl',mem',cd,gd'⟩ y=some (.c (.S T ys))) (fA:ao t1 eC=some ti) (hk:ti.kind= .sl E) (yo:ao t2 eC=some rR) (dR:rR.kind= .sl E2) (jN:ao E eC=some ei)
  (hb:(ys.length+ys.length/4+192)*ei.bytes≤281474976710656) (dO:ys.length*T.n≤140737488355328)
  (hr:RG Tryz.prog n ops draw nx (i'+1) cG ⟨(d,.c (.X (1000000*nx+1000*i')))::sl',(1000000*nx+1000*i',.vec E T ys)::mem',cd,gd'⟩ (fp draw cp (cH [x,y],[.s d,.m (1000000*nx+1000*i')])) R) (kR:ei.size=T.n:=by rfl) (lA:ei.zero.length=T.n:=by rfl)
  (hp:p:=by first|trivial| (simp only[Pr.an,Pr.h,num,aA,true_and,and_true];first|done|omega)| (simp[Pr.an,Pr.h,num,aA];done)| (simp[Pr.an,Pr.h,num,aA];omega)) (aV:Nat.blt d n=true:=by rfl):RG Tryz.prog n ops draw nx i os ⟨sl,mem,n0,gd⟩ ks R:=
 jE ar h hp (aiv ar hx hy fA hk yo dR jN kR lA hb dO hr aV)
end
end Go.El
namespace Go.El
open Go Go.RowKit
def Lz:AV→Option Bool
 | .c (.V (.slice none 0 0))=>some true
 | .c (.L _ _ _ _)=>some false
 | .c (.S _ (_::_))=>some false
 |_=>none
def Q7(tt:TT)(t:Nat):Bool:=match ao t tt with
 |some ti=>(match ti.kind with| .sl _=>true|_=>false)
 |none=>false
def Ae(s:ByteArray)(i:Int):Option Int:=match s[i.toNat]? with
 |some b=>some b.toNat
 |none=>none
def Yv(tt:TT)(op:BinOp)(t:Nat)(v w:AV):Option AV:=match w with
 | .c (.V (.slice none 0 0))=>(match Q7 tt t,Lz v with
  |true,some b=>(match op with
   | .eql=>some (.c (.B b))
   | .neq=>some (.c (.B (!b)))
   |_=>none)
  |_,_=>none)
 |_=>none
def B5(tt:TT)(st:St):Op→Option (AV×Pr)
 | .build t parts=>(match ao t tt with
  |some ti=>(match ti.kind with
   | .arr len E=>(match ao E tt with
    |some ei=>(match BG (yl ei.size 0 len) st (ti.zero.map ZV.sU) parts.toList with
     |some cs=>some (.a cs,.t)
     |none=>none)
    |none=>none)
   |_=>none)
  |none=>none)
 | .index t x i=>(match st.ev x,st.ev i with
  |some (.a cs),some (.c (.I _ j))=>(match ao t tt with
   |some ti=>(match ti.kind with
    | .arr len E=>(match qv tt E with
     |some (sz,ag)=>(match pD cs (j.toNat*sz) sz ag with
      |some u=>some (u,.and (.le 0 j) (.lt j len))
      |none=>none)
     |none=>none)
    |_=>none)
   |none=>none)
  |some (.c (.V (.string s))),some (.c (.I _ j))=>(match ao t tt with
   |some ti=>(match ti.kind,Ae s j with
    | .str,some b=>some (.c (.I .u8 b),.le 0 j)
    |_,_=>none)
   |none=>none)
  |_,_=>none)
 | .binOp op t x y _=>(match st.ev x,st.ev y with
  |some v,some w=>(match Yv tt op t v w with
   |some u=>some (u,.t)
   |none=>none)
  |_,_=>none)
 |_=>none
section
variable{P:Program}{tt:TT}{g:Gh}{W:World}
def aiR{v:AV}{b:Bool}(h:Lz v=some b){u:Value}(hu:bP g v u):∃a l c,u= .slice a l c∧a.isNone=b:=by
 unfold Lz at h;split at h
 ·cases h;have jm:u= .slice none 0 0:=hu;exact⟨none,0,0,jm,ae⟩
 ·rename_i id off len cap;cases h;cases cap with
  |some c=>obtain⟨b,_,rfl⟩:=hu;exact⟨_,_,_,ae,ae⟩
  |none=>obtain⟨_,b,c,_,rfl,_⟩:=hu;exact⟨_,_,_,ae,ae⟩
 ·rename_i T x xs;cases h;obtain⟨a,cap,rfl,_,_,h1⟩:=hu;rcases h1 with h1|⟨b,off,rfl,_⟩
  ·cases h1
  ·exact⟨_,_,_,ae,ae⟩
 ·cases h
def aiS{t e:TypeId}(hu:P.underlying t=some (.slice e))(a:Option Addr)(l c:Nat):(Op.equal t (.slice a l c) (.slice none 0 0)).run P W= .ok a.isNone W:=by rw[Op.equal,show Op.maxDepth=9999+1 from ae,Op.equalIn];cases a<;>simp[run_underlying hu]
def aiT(aT:cM P tt=true){F:de}{known:Nat→Prop}{σ:Kn}{g:Gh}{W:World}{a:Act}(aJ:bJ F known σ g W a){o:Oper}{bo:BinOp}{t:TypeId}{y z:Operand}{ty:TypeId}(ck:o.op= .binOp bo t y z ty){v:AV}{b:Bool}(vw:Q7 tt t=true)(hn:Lz v=some b){x:AV}
  (he:(bo= .eql∧x=AV.c (.B b))∨(bo= .neq∧x=AV.c (.B (!b)))) (h1:bP g v (a.eval y)∧∀id∈v.aD,known id) (zY:a.eval z= .slice none 0 0):
  (∀id∈x.aD,known id)∧∃v,(execOp a.eval o).run P W= .ok (.value v) W∧bP g x v:=by
 obtain⟨ad,l,c,B6,hb⟩:=aiR hn h1.1
 have B7:∃e,P.underlying t=some (.slice e):=by
  unfold Q7 at vw;split at vw
  ·rename_i ti fA;split at vw
   ·rename_i e hk;have h2:=(gR aT fA).kind;rw[hk]at h2;exact⟨e,h2⟩
   ·cases vw
  ·cases vw
 obtain⟨e,B7⟩:=B7
 have lM:execOp a.eval o=(do pure (.value (←(do eqGuard bo t y z (a.eval y) (a.eval z);binOp bo t (a.eval y) (a.eval z):Go.Sem Value)))):=zj
 have heq:=aiS (P:=P) (W:=W) B7 ad l c
 rcases he with⟨rfl,rfl⟩|⟨rfl,rfl⟩
 ·refine⟨λid al=>by simp[AV.aD,C.aD]at al,.bool b,?_,ae⟩;rw[lM,B6,zY];simp[eqGuard,binOp,heq,Result.andThen,hb]
 ·refine⟨λid al=>by simp[AV.aD,C.aD]at al,.bool (!b),?_,ae⟩;rw[lM,B6,zY];simp[eqGuard,binOp,heq,Result.andThen,hb]
def aiU(aT:cM P tt=true){ops:Array Oper}{i:Nat}{o:Oper}{d:Nat}(ho:ops[i]? =some o)(hg:o.guard=none)(hd:o.dst=some d){n:Nat}(aV:d<n)
  {st:St} {x:AV} {p:Pr} (he:B5 tt st o.op=some (x,p)) (hp:p) (new:Nat):mA P n ops i (pE st o.op) [(.s d,some (.v x))] new:=by
 refine ve ho hg hd aV _ x new ?_
 intro F known σ g W a aJ bw
 have fM:∀y∈o.op.operands,∀kx∈dU st y,σ kx.1=some kx.2:=by intro y hy kx aS;exact bw kx (jK.2 ⟨y,by simpa using hy,aS⟩)
 have eT:∀y∈o.op.operands,∀u,st.ev y=some u→bP g u (a.eval y)∧∀id∈u.aD,known id:=by intro y hy u hu;exact⟨gI aJ st y u hu (fM y hy),vd aJ st y u hu (fM y hy)⟩
 generalize ck:o.op=op at he eT fM bw
 unfold B5 at he
 split at he
 ·rename_i t parts;split at he
  ·rename_i ti fA;split at he
   ·rename_i len E hk;split at he
    ·rename_i ei jN;split at he
     ·rename_i cs dQ;cases he;have h2:=(gR aT fA).kind;rw[hk]at h2;have hu:P.underlying t=some (.array len E):=h2;obtain⟨inf,lO,cR,_,z,hz,qw⟩:=(gR aT fA).info;obtain⟨ie,x7,B8,_⟩:=(gR aT jN).info;have hzr:bU g (ti.zero.map ZV.sU) (ti.zero.map ZV.gj):=Ed g ti.zero;obtain⟨us,aiW,bW,hlen,zX⟩:=K8 aJ st (yl ei.size 0 len) (λi=>some (i*ei.size,ei.size)) (λi y hy=>by have:=QF ei.size len 0 i y hy;rw[this,eZ]) parts.toList _ cs _ dQ hzr (λq hq kx aS=>bw kx (jK.2 ⟨q.2,by simp only[Op.operands];simp only[nW];exact⟨q,hq,ae⟩,aS⟩)) (by rw[La];intro _ h;cases h);refine⟨zX,.agg us.toArray,?_,us,ae,bW⟩;have zY:(zeroValue t).run P W= .ok z W:=by simp[zeroValue,typeInfo,lO,hz]
      have vg:z.cells=(ti.zero.map ZV.gj).toArray:=Gm;have lM:execOp a.eval o=(do pure (.value (←Instr.build t (parts.map λ(i,x)=>(i,a.eval x))))):=zj;have jM:(parts.map λ(i,x)=>(i,a.eval x)).toList=parts.toList.map λp=>(p.1,a.eval p.2):=be
      have hb:(Instr.build t (parts.map λ(i,x)=>(i,a.eval x))).run P W= .ok (.agg us.toArray) W:=by unfold Instr.build;rw[Sem.run_bind,zY];simp only[Result.andThen];rw[Sem.run_bind,run_underlying hu];simp only[Result.andThen];rw[Sem.run_bind,run_sizeOf x7];simp only[Result.andThen,jM,vg,B8,aiW];rfl
      rw[lM,Sem.run_bind,hb];rfl
     ·cases he
    ·cases he
   ·cases he
  ·cases he
 ·rename_i t y j;have lM:execOp a.eval o=(do pure (.value (←Instr.index t (a.eval y) (a.eval j)))):=zj;split at he
  ·rename_i cs k jj hy hj;split at he
   ·rename_i ti fA;split at he
    ·rename_i len E hk;split at he
     ·rename_i sz ag ki;split at he
      ·rename_i u hu;cases he;obtain⟨jq,dO⟩:0≤jj∧jj<(len:Int):=hp;have h2:=(gR aT fA).kind;rw[hk]at h2;have B7:P.underlying t=some (.array len E):=h2;obtain⟨vs,Hh,bW⟩:=(eT y iJ _ hy).1;have Q8:a.eval j= .int k jj:=(eT j iJ _ hj).1;obtain⟨tU,⟨inf,lO,cR⟩,_⟩:=G7 aT ki;obtain⟨v,hv,hvr⟩:=Xt (P:=P) bW hu tU lO cR W;refine⟨λid al=>(eT y iJ _ hy).2 id (D6 hu id al),v,?_,hvr⟩;have b7:(Instr.index t (a.eval y) (a.eval j)).run P W= .ok v W:=by rw[Hh,Q8];unfold Instr.index;simp only[asIntOf,Sem.run_bind,Sem.run_pure,Result.andThen,run_underlying B7,jq,dO,and_self,cP,run_sizeOf lO,cR];exact hv
       rw[lM,Sem.run_bind,b7];rfl
      ·cases he
     ·cases he
    ·cases he
   ·cases he
  ·rename_i s k jj hy hj;split at he
   ·rename_i ti fA;split at he
    ·rename_i b hk hb;cases he;have jq:0≤jj:=hp;have h2:=(gR aT fA).kind;rw[hk]at h2;have B7:P.underlying t=some .string:=h2;have B6:a.eval y= .string s:=(eT y iJ _ hy).1;have Q8:a.eval j= .int k jj:=(eT j iJ _ hj).1;refine⟨λid al=>by simp[AV.aD,C.aD]at al,.int .u8 b,?_,ae⟩;have b7:(Instr.index t (a.eval y) (a.eval j)).run P W= .ok (.int .u8 b) W:=by
      rw[B6,Q8];unfold Ae at hb;unfold Instr.index;simp only[asIntOf,Sem.run_bind,Sem.run_pure,Result.andThen,run_underlying B7,jq,cP];split at hb
      ·rename_i bb qH;cases hb;rw[qH];rfl
      ·cases hb
     rw[lM,Sem.run_bind,b7];rfl
    ·cases he
   ·cases he
  ·cases he
 ·rename_i bo t y z ty;split at he
  ·rename_i v w hy hz;split at he
   ·rename_i u0 yt;cases he;unfold Yv at yt;split at yt
    ·split at yt
     ·rename_i b vw hn;have aiY:(bo= .eql∧x=AV.c (.B b))∨(bo= .neq∧x=AV.c (.B (!b))):=by
       split at yt
       ·cases yt;exact .inl ⟨ae,ae⟩
       ·cases yt;exact .inr ⟨ae,ae⟩
       ·cases yt
      exact aiT aT aJ ck vw hn aiY (eT y iJ _ hy) (eT z iJ _ hz).1
     ·cases yt
    ·cases yt
   ·cases he
  ·cases he
 ·cases he
end
def Yw(W:World)(H:FH)(E:TypeId)(T:ET)(xs:List T.den)(e:Ending)(W':World):Prop:=
 ∃v H',e= .returned v∧jn (λb=>W.heap.size≤b) ⟨H',λ_=>v⟩ W' 0 (.vec E T xs)∧cF H H'∧(∀b o,b<W.heap.size→H' b o=H b o)∧Sub H' W'∧Below W.heap.size W W'
structure m9(P:Program)(f:FuncId)(args:List AV)(E:TypeId)(T:ET)(xs:List T.den):Prop where
 call:mD P f=true
 spec:∀H W vs,Sub H W→jt ⟨H,jd⟩ args vs→Calls P f vs.toArray W (Yw W H E T xs)
def Yx(P:Program)(fn:Func)(E:TypeId)(T:ET)(xs:List T.den):fG:=λF e a W=>(∀b,¬F.own b)→bodyPost P fn (Yw F.w0 F.H0 E T xs) e a W
section
variable{P:Program}{tt:TT}{n:Nat}{st:St}
def yu(aT:cM P tt=true){fn:Func}{t id:Nat}{E:TypeId}{T:ET}{xs:List T.den}(hl:ao t st.sl=some (.c (.X id)))(hm:ao id st.mem=some (.vec E T xs))(fM:fn.results= #[.tmp t]:=by rfl):gq n .ret st (Yx P fn E T xs):=by
 intro F hF g W a h sZ;obtain⟨u,hu,bW⟩:=BQ (rs:=[.tmp t]) (v:= .c (.X id)) aT h fM (by simp[ua,BO,hl]);have jO:=h.df id (.vec E T xs) (by simp[St.kn,hm]);have LA:u=g.γ id:=bW;refine⟨h.defers.trans hF.ds,u,hu,u,g.H,ae,?_,h.le,λb o hb=>h.fresh b o hb (sZ b),h.sub,⟨h.below.os,h.below.tape,h.below.output,h.below.size,λk hk=>h.below.block k hk (sZ k)⟩⟩;rcases jO with⟨e1,e2⟩|⟨b,cap,vs,e1,e2,e3,e4,e5,e6,e7,e8⟩
 ·exact .inl ⟨by rw[LA];exact e1,e2⟩
 ·refine .inr ⟨b,cap,vs,by rw[LA];exact e1,e2,e3,e4,e5,e6,?_,e8⟩;rcases e7 with e7|e7
  ·exact e7
  ·exact(sZ b e7).elim
def Af{f:FuncId}{fn:Func}{c:Code}{args:List AV}{E:TypeId}{T:ET}{xs:List T.den}(hf:P.funcs[f]? =some fn)(hb:fn.body=some c)(hN:fn.ntmps=n)(hle:Nat.ble args.length n=true)(mE:fN args=[])(s8:(fn.name != "runtime.NumGoroutine")=true)
  (h:TR P n c ⟨ls 0 args,[],0,[]⟩ (Yx P fn E T xs)):m9 P f args E T xs:=by
 refine⟨by simp[mD,hf,hb,s8],?_⟩
 intro H W vs eL bW
 refine calls_of_wp hf hb ?_
 have hlen:=z' bW
 have hle:=cY hle
 refine wp_mono (h {w0:=W,H0:=H,n:=n} ⟨ae,bK _,ae,ae⟩ ⟨H,jd⟩ W _ ⟨?_,ae,?_,?_,?_,?_,?_,eL,⟨ae,ae,ae,bD _,λ_ _ _=>rfl⟩,cF.refl _,λ_ _ _ _=>rfl,λ_ h=>absurd h (zA _)⟩) (λe a W' hq=>hq (λ_ h=>h))
 ·simp[hN];omega
 ·intro t v ht;simp only[St.kn,ct]at ht;obtain⟨x,hx,he⟩:=ht;cases he;obtain⟨_,u,hu,hr,_⟩:=pK args vs 0 bW t v hx;have jm:vs[t]? =some u:=Ds;have br:t<vs.length:=(wA.1 jm).1;have:(vs.toArray++Array.replicate (fn.ntmps-vs.toArray.size) undef).getD t undef=u:=by rw[wy,Bd Gn];simp[jm]
  rw[this];exact hr
 ·intro id b e;simp[St.kn,ao]at e
 ·intro id b9 b b' k e;simp[St.kn,ao]at e
 ·intro k x e id al;cases k with
  |m j=>simp[St.kn,ao]at e
  |s t=>
   simp only[St.kn,ct]at e
   obtain⟨y,hy,he⟩:=e
   subst he
   obtain⟨_,u,_,_,h6⟩:=pK args vs 0 bW t y hy
   have:=h6 id al
   rw[mE]at this
   cases this
 ·intro id x e;simp[St.kn,ao]at e
def aiZ{n new:Nat}{ops:Array Oper}{i:Nat}{o:Oper}(ho:ops[i]? =some o)(hg:o.guard=none){d:Nat}(hd:o.dst=some d)(aV:d<n){f:FuncId}{args:Array Operand}{dn:Array TypeId}(ck:o.op= .call ⟨.value (.func f),args,dn⟩)
  {st:St} {vs:List AV} {E:TypeId} {T:ET} {xs:List T.den} (hv:kH st args.toList=some vs) (hm:fN vs=[]) (hf:m9 P f vs E T xs):ll P n ops i st ((st.pm new (.vec E T xs)).put d (.c (.X new))) new (cH args.toList,[.s d,.m new]):=by
 refine⟨args.toList.flatMap (dU st),[(.s d,some (.v (.c (.X new)))),(.m new,some (.b (.vec E T xs)))],?_,?_,BI st d new _ _,fX st _,λk hk=>by simpa[fi]using hk⟩
 ·intro F gk Q known σ g W a K dX aJ bw hK;have kE:=(z7 aJ st _ _ hv bw).il (γ:=jd) hm;have hc:=hf.spec g.H W _ aJ.sub kE;unfold wpOp;simp only[ho,Region.wanted,hg,cP];refine .inl ?_;unfold Oper.wp;have hex:(execOp a.eval o).run P W= .ok (.enter f (args.map a.eval)) W:=by
   have cy:=hf.call;unfold mD at cy;rw[execOp,ck];cases iB:P.funcs[f]? with
   |none=>rw[iB]at cy;simp at cy
   |some fn=>
    rw[iB]at cy
    simp only[eX,bne_iff_ne,ne_eq]at cy
    have h2:fn.body≠none:=by intro hb;rw[hb]at cy;simp at cy
    simp[resolve,Act.eval,Deferred.ofValue,invoke,callFunc,iB,cy.1,h2]
  rw[hex];simp only[Oper.upon];have iP:(args.map a.eval)=(args.toList.map a.eval).toArray:=wo;rw[iP];refine hc.mono ?_;rintro e W' ⟨v,H',rfl,jO,hle,lR,eL,eN⟩;simp only[hd];have cR:d<a.tmps.size:=rA;let g':Gh:=⟨H',λid=>if id=new then v else g.γ id⟩;have oO:iL known g g':=⟨hle,λid al=>by
   have:id≠new:=λe=>dX (e▸al)
   simp[g',this]⟩
  refine hK g' W' _ (aJ.step (chg:=λ_=>False) (g':=g') ⟨oO,lR,eL,eN.size,λk hk _=>eN.block k hk,eN.os,eN.tape,eN.output⟩ _ new dX sC aJ.defers ?_ (λ_ h=>h.elim) ?_ ?_ ?_ ?_)
  ·intro t ht;have aR:d≠t:=tL;simp[Act.put,nT aR]
  ·intro t u ht;simp only[bc]at ht;split at ht
   ·rename_i e;simp only[Key.s.injEq]at e;simp only[aO,Info.v.injEq]at ht;subst e;subst ht;simp[Act.put,cR,bP,dt,g']
   ·split at ht
    ·simp at ht
    ·simp at ht
  ·intro id b ht;simp only[bc,reduceCtorEq,cV]at ht;split at ht
   ·rename_i e;simp only[Key.m.injEq]at e;simp only[aO,Info.b.injEq]at ht;subst e;subst ht;have Ag:=aJ.below.size;rcases jO with⟨e1,e2⟩|⟨b,cap,ws,e1,e2,e3,e4,e5,e6,e7,e8⟩
    ·refine⟨.inl ⟨by simpa[g']using e1,e2⟩,.inr ⟨ae,λk hk=>?_⟩⟩;have e1:v= .slice none 0 0:=e1;simp[g',e1,cQ]at hk
    ·have e1:v= .slice (some ⟨b,0,none⟩) xs.length cap:=e1;have e7:W.heap.size≤b:=e7;refine⟨.inr ⟨b,cap,ws,by simpa[g']using e1,e2,e3,e4,e5,e6,.inl af,e8⟩,.inr ⟨ae,λk hk=>?_⟩⟩;simp[g',e1,cQ]at hk;exact .inl af
   ·simp at ht
  ·intro k y ht;simp only[bc]at ht;split at ht
   ·simp only[aO]at ht;subst ht;intro id al;simp[Info.aD,AV.aD,C.aD]at al;exact .inr al
   ·split at ht
    ·simp only[aO]at ht;subst ht;intro id al;simp[Info.aD,aK.aD]at al
    ·simp at ht
  ·intro id y ht;simp only[bc,reduceCtorEq,cV]at ht;split at ht
   ·rename_i e;simp only[Key.m.injEq]at e;exact .inr e.symm
   ·simp at ht
 ·intro kx aS;obtain⟨x,_,h⟩:=jK.1 aS;exact gn st x kx h
def ai0{n:Nat}{ops:Array Oper}{draw:Bool}{nx i:Nat}{d f:Nat}{args:Array Operand}{dn:Array TypeId}{ty:TypeId}{pos:String}{cJ:Array Edge}{os:List Oper}{sl:List (Nat×AV)}{mem:List (Nat×aK)}{n0:Nat}{gd:List (Nat×Bool)}{ks:List Ks}{Q:St→Prop}{vs:List AV}{E:TypeId}{T:ET}{xs:List T.den}
  (hv:kH ⟨sl,mem,n0,gd⟩ args.toList=some vs) (hf:m9 P f vs E T xs) (h:RG P n ops draw nx (i+1) os ⟨(d,.c (.X (1000000*nx+1000*i)))::sl,(1000000*nx+1000*i,.vec E T xs)::mem,n0,gd⟩ (fp draw ks (cH args.toList,[.s d,.m (1000000*nx+1000*i)])) Q) (hm:fN vs=[]:=by rfl) (aV:Nat.blt d n=true:=by rfl):
  RG P n ops draw nx i (⟨some d,.call ⟨.value (.func f),args,dn⟩,ty,pos,cJ,none⟩::os) ⟨sl,mem,n0,gd⟩ ks Q:=
 kT (λho=>aiZ ho ae ae (cY aV) ae hv hm hf) (jD h)
end
end Go.El
namespace Go.El
open Go Go.RowKit Go.Proofs
section
variable{P:Program}{tt:TT}
def ai1(aT:cM P tt=true){n new:Nat}{ops:Array Oper}{i:Nat}{o:Oper}(ho:ops[i]? =some o)(hg:o.guard=none){d:Nat}(hd:o.dst=some d)(aV:d<n){st:St}{x:AV}{p:Pr}(he:B5 tt st o.op=some (x,p))(hp:p):ll P n ops i st (st.put d x) new (cH o.op.operands.toList,[.s d]):=by refine⟨pE st o.op,[(.s d,some (.v x))],aiU aT ho hg hd aV he hp new,?_,n6 st d x,fX st _,λk hk=>by simpa[fi]using hk⟩;intro kx aS;obtain⟨x,_,h⟩:=jK.1 aS;exact gn st x kx h
def ai2{n:Nat}{ops:Array Oper}{draw:Bool}{nx i:Nat}{d:Nat}{op:Op}{ty:TypeId}{pos:String}{cJ:Array Edge}{os:List Oper}{sl:List (Nat×AV)}{mem:List (Nat×aK)}{n0:Nat}{gd:List (Nat×Bool)}{ks:List Ks}{Q:St→Prop}(aT:cM P tt=true){x:AV}{p:Pr}(he:B5 tt ⟨sl,mem,n0,gd⟩ op=some (x,p))(hp:p)
  (h:RG P n ops draw nx (i+1) os ⟨(d,x)::sl,mem,n0,gd⟩ (fp draw ks (cH op.operands.toList,[.s d])) Q) (aV:Nat.blt d n=true:=by rfl):
  RG P n ops draw nx i (⟨some d,op,ty,pos,cJ,none⟩::os) ⟨sl,mem,n0,gd⟩ ks Q:=
 kT (λho=>ai1 aT ho ae ae (cY aV) he hp) (jD h)
end
section
variable{n:Nat}{Q:fG}{sl sl':List (Nat×AV)}{mem mem':List (Nat×aK)}{nx:Nat}{gd gd':List (Nat×Bool)}{ops:Array Oper}{draw:Bool}{p:Pr}{ks cp:List Ks}{i i' n0 cd:Nat}{os cG:List Oper}{d:Nat}{ty:TypeId}{pos:String}{cJ:Array Edge}{R:St→Prop}
def rx{op:Op}{x:AV}{pm:Pr}(h:runs eC n nx draw ops.toList os i ⟨sl,mem,n0,gd⟩ .t ks=(⟨some d,op,ty,pos,cJ,none⟩::cG,i',⟨sl',mem',cd,gd'⟩,p,cp))(he:B5 eC ⟨sl',mem',cd,gd'⟩ op=some (x,pm))(jM:pm)
  (hk:RG Tryz.prog n ops draw nx (i'+1) cG ⟨(d,x)::sl',mem',cd,gd'⟩ (fp draw cp (cH op.operands.toList,[.s d])) R)
  (hp:p:=by first|trivial| (simp only[Pr.an,Pr.h,num,aA,true_and,and_true];first|done|omega)| (simp[Pr.an,Pr.h,num,aA];done)| (simp[Pr.an,Pr.h,num,aA];omega)) (aV:Nat.blt d n=true:=by rfl):RG Tryz.prog n ops draw nx i os ⟨sl,mem,n0,gd⟩ ks R:=
 jE ar h hp (ai2 ar he jM hk aV)
def w9{f:FuncId}{args:Array Operand}{dn:Array TypeId}{vs:List AV}{E:TypeId}{T:ET}{xs:List T.den}(h:runs eC n nx draw ops.toList os i ⟨sl,mem,n0,gd⟩ .t ks=(⟨some d,.call ⟨.value (.func f),args,dn⟩,ty,pos,cJ,none⟩::cG,i',⟨sl',mem',cd,gd'⟩,p,cp))(hv:kH ⟨sl',mem',cd,gd'⟩ args.toList=some vs)(hf:m9 Tryz.prog f vs E T xs)
  (hk:RG Tryz.prog n ops draw nx (i'+1) cG ⟨(d,.c (.X (1000000*nx+1000*i')))::sl',(1000000*nx+1000*i',.vec E T xs)::mem',cd,gd'⟩ (fp draw cp (cH args.toList,[.s d,.m (1000000*nx+1000*i')])) R)
  (hp:p:=by first|trivial| (simp only[Pr.an,Pr.h,num,aA,true_and,and_true];first|done|omega)| (simp[Pr.an,Pr.h,num,aA];done)| (simp[Pr.an,Pr.h,num,aA];omega)) (hm:fN vs=[]:=by rfl) (aV:Nat.blt d n=true:=by rfl):RG Tryz.prog n ops draw nx i os ⟨sl,mem,n0,gd⟩ ks R:=
 jE ar h hp (ai0 hv hf hk hm aV)
end
end Go.El
namespace Go.El
open Go Go.RowKit
def EA(i j:Nat):AV→AV
 | .c (.X k)=>if k=j then .c (.X i)else .c (.X k)
 |v=>v
def EB(i j:Nat):List (Nat×AV)→List (Nat×AV)
 |[]=>[]
 | (t,v)::r=>(t,EA i j v)::EB i j r
def B9(i j:Nat):List (Nat×aK)→List (Nat×aK)
 |[]=>[]
 | (k,b)::r=>(if k=j then i else k,b)::B9 i j r
def LB(i j:Nat):AV→Bool
 | .c (.X k)=> !(k==i)
 |v=>v.aD.all λk=> !(k==i)&& !(k==j)
def LC(i j:Nat):List (Nat×AV)→Bool
 |[]=>true
 | (_,v)::r=>LB i j v&&LC i j r
def EC(i j:Nat):List (Nat×aK)→Bool
 |[]=>true
 | (k,b)::r=> !(k==i)&&(b.aD.all λk=> !(k==i)&& !(k==j))&&EC i j r
def Yy(i j t:Nat):∀l:List (Nat×AV),ao t (EB i j l)=(ao t l).map (EA i j)
 |[]=>rfl
 | (k,v)::r=>by simp only[EB,ao,Yy i j t r];split<;>rfl
def Yz{i j t:Nat}{v:AV}:∀{l:List (Nat×AV)},LC i j l=true→ao t l=some v→LB i j v=true
 |[],_,h=>by simp[ao]at h
 | (k,x)::r,h,hl=>by
  simp only[LC,eX]at h;simp only[ao]at hl;split at hl
  ·cases hl;exact h.1
  ·exact Yz h.2 hl
def YA{i j t:Nat}{b:aK}:∀{l:List (Nat×aK)},EC i j l=true→ao t l=some b→t≠i∧∀k∈b.aD,k≠i∧k≠j
 |[],_,h=>by simp[ao]at h
 | (k,x)::r,h,hl=>by
  simp only[EC,eX,wG]at h;simp only[ao]at hl;split at hl
  ·rename_i e;cases hl;subst e;exact⟨by simpa using h.1.1,λk hk=>by simpa using h.1.2 k hk⟩
  ·exact YA h.2 hl
def Q9{i j:Nat}(t:Nat){b:aK}:∀{l:List (Nat×aK)},EC i j l=true→ao t (B9 i j l)=some b→(t=i∧ao j l=some b)∨(t≠i∧t≠j∧ao t l=some b)
 |[],_,h=>by simp[B9,ao]at h
 | (k,x)::r,h,hl=>by
  simp only[EC,eX]at h;have Ca:k≠i:=by simpa using h.1.1
  simp only[B9,ao]at hl;by_cases Cb:k=j
  ·rw[aw Cb]at hl;subst Cb;split at hl
   ·rename_i e;cases hl;exact .inl ⟨e.symm,by simp[ao]⟩
   ·rename_i aR;rcases Q9 t h.2 hl with⟨rfl,_⟩|⟨h1,h2,h3⟩
    ·exact absurd ae aR
    ·exact .inr ⟨h1,h2,by simp only[ao];rw[aq (λ(e:k=t)=>h2 e.symm)];exact h3⟩
  ·rw[aq Cb]at hl;split at hl
   ·rename_i e;cases hl;subst e;exact .inr ⟨Ca,Cb,by simp[ao]⟩
   ·rename_i aR;rcases Q9 t h.2 hl with⟨rfl,h2⟩|⟨h1,h2,h3⟩
    ·exact .inl ⟨ae,by simp only[ao,aq Cb];exact h2⟩
    ·exact .inr ⟨h1,h2,by simp only[ao,aq aR];exact h3⟩
def qI(i j:Nat){sl:List (Nat×AV)}{mem:List (Nat×aK)}{nx:Nat}{gd:List (Nat×Bool)}(hi:Nat.blt i (1000000*nx)=true)(hs:LC i j sl=true)(hm:EC i j mem=true)(BA:Nat.ble 1 i=true:=by rfl):Wk ⟨sl,mem,nx,gd⟩ ⟨EB i j sl,B9 i j mem,nx,gd⟩:=by
 intro F gV g W a h;have hi:i<1000000*nx:=by simpa[Nat.blt_eq]using hi
 let g':Gh:=⟨g.H,λid=>if id=i then g.γ j else g.γ id⟩;have hle:iL (λid=>id≠i) g g':=⟨cF.refl _,λid al=>aq al⟩;have lW:g'.γ i=g.γ j:=aw ae;have nD:∀id,id≠i→g'.γ id=g.γ id:=λid al=>aq al
 have hS:∀t v',St.kn ⟨EB i j sl,B9 i j mem,nx,gd⟩ (.s t)=some (.v v')→∃v,ao t sl=some v∧v'=EA i j v:=by intro t v' e;simp only[St.kn,Yy,Option.map_map,ct]at e;obtain⟨v,hv,he⟩:=e;cases he;exact⟨v,hv,ae⟩
 have hM:∀t b,St.kn ⟨EB i j sl,B9 i j mem,nx,gd⟩ (.m t)=some (.b b)→(t=i∧ao j mem=some b)∨(t≠i∧t≠j∧ao t mem=some b):=by intro t b e;simp only[St.kn,ct]at e;obtain⟨v,hv,he⟩:=e;cases he;exact Q9 t hm hv
 have YB:∀t u b,ao t mem=some b→jn F.N g W t b→g'.γ u=g.γ t→jn F.N g' W u b:=by
  intro t u b hb hr hγ;have zX:=(YA hm hb).2;cases b with
  |box E bz cs=>
   obtain⟨k,vs,rest,e1,e2,e3,e4,e5,e6⟩:=hr
   exact⟨k,vs,rest,by rw[hγ];exact e1,e2,bU.mono hle (λid al=>(zX id al).1) e3,e4,e5,by rw[hγ];exact e6⟩
  |vec E T ys=>
   rcases hr with⟨e1,e2⟩|⟨k,cap,vs,e1,e2⟩
   ·exact .inl ⟨by rw[hγ];exact e1,e2⟩
   ·exact .inr ⟨k,cap,vs,by rw[hγ];exact e1,e2⟩
  |fW f first caps=>
   obtain⟨us,ws,e1,e2,e3⟩:=hr
   exact⟨us,ws,by rw[hγ];exact e1,dv.mono hle (λid al=>(zX id (fS _ al)).1) e2,dv.mono hle (λid al=>(zX id (j9 _ al)).1) e3⟩
  |fz E cs=>
   obtain⟨k,vs,rest,e1,e2,e3,e4,e5⟩:=hr
   exact⟨k,vs,rest,by rw[hγ];exact e1,e2,bU.mono hle (λid al=>(zX id al).1) e3,e4,e5⟩
 have rU:∀t b,ao t mem=some b→St.kn ⟨sl,mem,nx,gd⟩ (.m t)=some (.b b):=λt b hb=>by simp[St.kn,hb]
 refine⟨g',h.size,h.defers,?_,?_,?_,?_,?_,h.sub,h.below,h.le,h.fresh,λid al=>⟨(h.iz id al).1,by have:=cY BA;rw[nD id af];exact(h.iz id al).2⟩⟩
 ·intro t v' e;obtain⟨v,hv,rfl⟩:=hS t v' e;have hr:=h.gG t v Kf;have rP:=Yz hs hv;unfold EA;split
  ·rename_i k;have Ca:k≠i:=by simpa[LB]using rP
   have Ev:a.tmps.getD t undef=g.γ k:=hr;split
   ·rename_i e';subst e';show _=g'.γ i;rw[lW];exact Ev
   ·show _=g'.γ k;rw[nD k Ca];exact Ev
  ·rename_i aR;refine bP.mono hle (λid al=>?_) hr;unfold LB at rP;split at rP
   ·rename_i k;exact absurd ae (aR k)
   ·have:=(wG.1 rP) id al;simp at this;exact this.1
 ·intro t b e;rcases hM t b e with⟨rfl,hb⟩|⟨h1,h2,hb⟩
  ·exact YB j t b hb (h.df j b (rU j b hb)) lW
  ·exact YB t t b hb (h.df t b (rU t b hb)) (nD t h1)
 ·intro t u b b' k e e' hk dx;rcases hM t b e with⟨rfl,hb⟩|⟨h1,h2,hb⟩<;>rcases hM u b' e' with⟨rfl,du⟩|⟨zP,qo,du⟩
  ·rfl
  ·rw[lW]at hk;rw[nD u zP]at dx;exact absurd (h.inj j u b b' k (rU _ _ hb) (rU _ _ du) hk dx) (λe=>qo e.symm)
  ·rw[lW]at dx;rw[nD t h1]at hk;exact absurd (h.inj t j b b' k (rU _ _ hb) (rU _ _ du) hk dx) h2
  ·rw[nD t h1]at hk;rw[nD u zP]at dx;exact h.inj t u b b' k (rU _ _ hb) (rU _ _ du) hk dx
 ·intro key x e id al;cases key with
  |s t=>
   cases x with
   |b b'=>simp only[St.kn,ct]at e;obtain⟨_,_,he⟩:=e;cases he
   |v v'=>
    obtain⟨v,hv,rfl⟩:=hS t v' e
    have ju:=h.aD (.s t) (.v v) Kf
    have al:id∈(EA i j v).aD:=al
    unfold EA at al
    split at al
    ·split at al
     ·simp only[AV.aD,C.aD,jJ]at al;subst al;exact hi
     ·exact ju id al
    ·exact ju id al
  |m t=>
   cases x with
   |v v'=>simp only[St.kn,ct]at e;obtain⟨_,_,he⟩:=e;cases he
   |b b'=>
    rcases hM t b' e with⟨rfl,hb⟩|⟨h1,h2,hb⟩
    ·exact h.aD (.m j) (.b b') (rU j b' hb) id al
    ·exact h.aD (.m t) (.b b') (rU t b' hb) id al
 ·intro t x e;cases x with
  |v v'=>simp only[St.kn,ct]at e;obtain⟨_,_,he⟩:=e;cases he
  |b b'=>
   rcases hM t b' e with⟨rfl,hb⟩|⟨h1,h2,hb⟩
   ·exact hi
   ·exact h.fF t _ (rU t b' hb)
def Wk.trans{a b c:St}(h:Wk a b)(k:Wk b c):Wk a c:=λF hk g W ac hh=>by obtain⟨g',h'⟩:=h F hk g W ac hh;exact k F hk g' W ac h'
end Go.El
