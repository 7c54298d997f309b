/- The engine, part 19: append. Own work; no condition. -/
import Derived.Deep.AppendSrc
import Derived.Deep.DeepAppendWide
import Derived.Test.YtkkccchkmcjcpaaGreatProg
import Derived.KernelRfl
import Derived.Test.YtkkccchkmcjcpaaGreatR2
set_option linter.defProp false
set_option linter.unusedVariables false
set_option linter.unusedSimpArgs false
set_option linter.unnecessarySimpa false
namespace Go.El
open Go Go.RowKit
section
variable{P:Program}{tt:TT}{n:Nat}
def Xl{g:Gh}{T:ET}{ys:List T.den}{v:Value}(h:dk g (.S T ys) v):
  ∃us:List Value,(∀W:World,Sub g.H W→(Builtin.firstCells T.n ys.length v).run P W= .ok us.toArray W)∧us.length=ys.length*T.n∧(∀i(h:i<ys.length),dh g.H T ys[i] ((us.drop (i*T.n)).take T.n))∧∀u∈us,pe u=true:=by
 obtain⟨a,cap,rfl,h1,h2,h3⟩:=h
 by_cases hy:ys=[]
 ·subst hy;refine⟨[],λW _=>?_,by simp,by simp,by simp⟩;cases a with
  |none=>simp[Builtin.firstCells,pure]
  |some a=>simp[Builtin.firstCells,loadCells,loadCellsFrom,pure]
 ·rcases h3 with h3|⟨b,off,rfl,h3⟩
  ·exact absurd h3 hy
  ·let us:=(List.range (ys.length*T.n)).map λk=>(g.H b (off+k)).getD undef
   have iN:us.length=ys.length*T.n:=by simp[us]
   have zM:∀i(hi:i<ys.length),∃cs,cs.length=T.n∧dh g.H T ys[i] cs∧(us.drop (i*T.n)).take T.n=cs∧∀j(hj:j<cs.length),g.H b (off+(i*T.n+j))=some cs[j]:=by
    intro i hi;obtain⟨cs,hl,hr,hc⟩:=h3 i hi;have uZ:(i+1)*T.n≤ys.length*T.n:=dY _ af;rw[fP,iZ]at uZ;refine⟨cs,hl,hr,?_,λj hj=>by rw[←tA];exact hc j hj⟩;apply nP
    ·simp[us];omega
    ·intro j fh jy;simp only[uJ,we,us,si,A0];rw[←tA,hc j jy];rfl
   have ns:∀k(hk:k<us.length),∃v,g.H b (off+k)=some v∧us[k]=v∧pe v=true:=by
    intro k hk;have oD:=T.Dp;have du:k<ys.length*T.n:=af;have hq:k/T.n<ys.length:=OJ (by rw[g9];exact du);have hm:k%T.n<T.n:=iq _ oD;obtain⟨cs,hl,hr,Xm,hc⟩:=zM (k/T.n) hq;have oE:k/T.n*T.n+k%T.n=k:=by rw[g9];exact xD k T.n
    have:=hc (k%T.n) af;rw[oE]at this;refine⟨_,this,?_,?_⟩
    ·simp only[us,si,A0,this,De]
    ·exact(Dr (g:=g) T _ _ hr).one (DP T _) _ (mO _)
   refine⟨us,λW eI=>?_,iN,λi hi=>?_,λu hu=>?_⟩
   ·simp only[Builtin.firstCells,loadCells];have:=run_loadCellsFrom (P:=P) (W:=W) b (ys.length*T.n) 0 off us #[] iN (λj hj=>by obtain⟨v,h4,h5,_⟩:=ns j hj;rw[j6,eI _ _ _ h4,h5]);simpa using this
   ·obtain⟨cs,hl,hr,Xm,_⟩:=zM i hi;rw[Xm];exact hr
   ·obtain⟨k,hk,rfl⟩:=V2 hu;obtain⟨v,_,h5,h6⟩:=ns k hk;rw[h5];exact h6
def ahr{W:World}{t1 t2 ty E E2:TypeId}{inf:TypeInfo}(tJ:P.underlying t1=some (.slice E))(nq:P.underlying t2=some (.slice E2))(hi:P.info? E=some inf){b D0 tQ:Nat}{y:Value}{m:Nat}(hm:(Builtin.lenOf y).run P W= .ok m W)
  {us vs:List Value} {Eb:TypeId} (ja:(Builtin.firstCells inf.size m y).run P W= .ok us.toArray W) (hh:W.heap[b]? =some (.cells vs.toArray Eb (0,0))) (iK:∀u∈us,pe u=true) (hle:D0+m≤tQ) (u4:D0*inf.size+us.length≤vs.length):
  (Builtin.append_ #[t1,t2] ty #[.slice (some ⟨b,0,none⟩) D0 tQ,y]).run P W= .ok (.slice (some ⟨b,0,none⟩) (D0+m) tQ) (jm W b (dy vs us (D0*inf.size)) Eb):=by
 have dc:=DM (P:=P) b us W vs (D0*inf.size) 0 hh af iK
 simp only[j6]at dc
 unfold Builtin.append_
 simp only[JR,AW,C4]
 rw[Sem.run_bind,run_underlying tJ]
 simp only[Result.andThen]
 rw[Sem.run_bind,run_sizeOf hi]
 simp only[Result.andThen]
 rw[Sem.run_bind,run_underlying nq]
 simp only[Result.andThen,pure_bind,mN,cP,Bool.not_false,cM]
 rw[Sem.run_bind,hm]
 simp only[Result.andThen,hle,cM]
 rw[Sem.run_bind,ja]
 simp only[Result.andThen,p5,eR]
 rw[Sem.run_bind,dc]
 rfl
def GS(N:Nat→Prop)(g:Gh)(W:World)(E:TypeId)(T:ET)(xs:List T.den)(v:Value):Prop:=
 (v= .slice none 0 0∧xs=[])∨∃b cap,∃vs:List Value,v= .slice (some ⟨b,0,none⟩) xs.length cap∧W.heap[b]? =some (.cells vs.toArray E (0,0))∧
   vs.length=cap*T.n∧xs.length≤cap∧xs.length*T.n≤140737488355328∧(∀i(h:i<xs.length),dh g.H T xs[i] ((vs.drop (i*T.n)).take T.n))∧N b∧∀o,g.H b o=none
def Xn{α:Type}(vs:List α)(n i m:Nat)(h:i<m):((vs.take (m*n)).drop (i*n)).take n=(vs.drop (i*n)).take n:=by have h1:(i+1)*n≤m*n:=dY _ h;rw[fP,iZ]at h1;rw[List.drop_take,OY];congr 1;omega
def ahs{α:Type}(us vs:List α)(n m i:Nat)(hl:us.length=m*n)(h:m≤i):((us++vs).drop (i*n)).take n=(vs.drop ((i-m)*n)).take n:=by have h1:m*n≤i*n:=dY _ h;rw[List.drop_append,JQ af,wh,hl,Nat.sub_mul]
def Xo{α:Type}(us vs:List α)(n m i:Nat)(hl:us.length=m*n)(h:i<m):((us++vs).drop (i*n)).take n=(us.drop (i*n)).take n:=by have h1:(i+1)*n≤m*n:=dY _ h;rw[fP,iZ]at h1;rw[JM af,AS cO]
def Xp{H:FH}{T:ET}{xs ys:List T.den}{os us rest:List Value}(ho:os.length=xs.length*T.n)(hu:us.length=ys.length*T.n)(h1:∀i(h:i<xs.length),dh H T xs[i] ((os.drop (i*T.n)).take T.n))(h2:∀i(h:i<ys.length),dh H T ys[i] ((us.drop (i*T.n)).take T.n)):
  ∀i(h:i<(xs++ys).length),dh H T (xs++ys)[i] (((os++us++rest).drop (i*T.n)).take T.n):=by
 intro i hi
 rw[List.getElem_append]
 split
 ·rename_i h;rw[nj,Xo os _ T.n xs.length i ho h];exact h1 i h
 ·rename_i h;simp only[ko]at hi;rw[nj,ahs os _ T.n xs.length i ho af,Xo us _ T.n ys.length _ hu af];exact h2 _ af
def aht{N:Nat→Prop}{g:Gh}{W:World}(eI:Sub g.H W){E E2 t1 t2 ty:TypeId}{T:ET}{xs ys:List T.den}{v y:Value}{inf:TypeInfo}{z:Value}(tJ:P.underlying t1=some (.slice E))(nq:P.underlying t2=some (.slice E2))(hi:P.info? E=some inf)(hz:inf.zero=some z)(GU:z.cells.size=inf.size)(hT:inf.size=T.n)
  (hv:GS N g W E T xs v) (hy:dk g (.S T ys) y) (hb:((xs.length+ys.length)+(xs.length+ys.length)/4+192)*inf.bytes≤281474976710656) (dK:(xs.length+ys.length)*T.n≤140737488355328) (hN:N W.heap.size):
  ∃v' W',(Builtin.append_ #[t1,t2] ty #[v,y]).run P W= .ok v' W'∧GS N g W' E T (xs++ys) v'∧W.heap.size≤W'.heap.size∧(∀k,k<W.heap.size→cN v≠some k→W'.heap[k]? =W.heap[k]?)∧W'.os=W.os∧W'.tape=W.tape∧W'.output=W.output∧Sub g.H W'∧(∀k,cN v'=some k→W.heap.size≤k∨cN v=some k):=by
 obtain⟨us,Xq,iN,qk,GV⟩:=Xl (P:=P) hy
 have Xr:Sub g.H W.drew:=eI
 have ja:=Xq W eI
 have ahu:=Xq W.drew Xr
 have xN:∀o,g.H W.heap.size o=none:=by
  intro o;cases hv:g.H W.heap.size o with
  |none=>rfl
  |some v=>
   have:=World.block_lt_of_cell? W _ (eI _ _ _ hv)
   simp at this
 have hlen:∀w':World,(Builtin.lenOf y).run P w'= .ok ys.length w':=by obtain⟨a,cap,rfl,_⟩:=hy;intro w';rfl
 have oD:=T.Dp
 have Xs:∀(base:Option Addr)(tQ:Nat)(D1:List Value),v= .slice base xs.length tQ→(Builtin.firstCells inf.size xs.length (.slice base xs.length tQ)).run P W.drew= .ok D1.toArray W.drew→D1.length=xs.length*T.n→(∀i(h:i<xs.length),dh g.H T xs[i] ((D1.drop (i*T.n)).take T.n))→tQ<xs.length+ys.length→
   ∃v' W',(Builtin.append_ #[t1,t2] ty #[v,y]).run P W= .ok v' W'∧GS N g W' E T (xs++ys) v'∧W.heap.size≤W'.heap.size∧(∀k,k<W.heap.size→cN v≠some k→W'.heap[k]? =W.heap[k]?)∧W'.os=W.os∧W'.tape=W.tape∧W'.output=W.output∧Sub g.H W'∧(∀k,cN v'=some k→W.heap.size≤k∨cN v=some k):=by
  intro base tQ D1 hv hold KP hor bh
  subst hv
  have zN:Src P inf.size t2 y ys.length us W:=⟨.inl ⟨_,nq⟩,hlen,by rw[hT];exact ja,by rw[hT];exact ahu,by rw[hT];exact iN,λu hu=>by have:=GV u hu;revert this;cases u<;>simp[pe,Value.oneCell']⟩
  have ahw:((xs.length+ys.length:Nat):Int)≤9223372036854775807:=by have:(xs.length+ys.length)*1≤(xs.length+ys.length)*T.n:=lE _ oD;omega
  have hr:=run_append_grow_src (P:=P) W t1 t2 ty E inf z tJ hi hz base xs.length tQ D1 hold y ys.length us zN bh ahw (growslice_fits_wide bh hb)
  have pc:=grownCap_ge W (xs.length+ys.length) tQ E
  refine⟨_,_,hr,.inr ⟨W.heap.size,grownCap W (xs.length+ys.length) tQ E,D1++us++(Builtin.zeroCells z.cells (grownCap W (xs.length+ys.length) tQ E-(xs.length+ys.length))).toList,by simp,by rw[show W.heap.size=W.drew.heap.size from ae,heap_alloc_new];congr 2;apply tB;simp,?_,by simpa using pc,by simpa using dK,Xp KP iN hor qk,hN,xN⟩,by simp,?_,ae,ae,ae,?_,?_⟩
  ·simp only[ko,KP,iN,V3,size_zeroCells,GU,hT,←fP];congr 1;omega
  ·intro k hk _;exact heap_alloc_old W.drew _ hk
  ·exact GF Xr _
  ·intro k hk;simp only[cN,aO]at hk;exact .inl af
 rcases hv with⟨rfl,rfl⟩|⟨b,cap,vs,rfl,hh,j9,hle,Xt,hr,hNb,hH⟩
 ·by_cases Xu:ys=[]
  ·subst Xu;refine⟨.slice none 0 0,W,?_,.inl ⟨ae,ae⟩,bF _,λ_ _ _=>rfl,ae,ae,ae,eI,by simp[cN]⟩;have h0:us=[]:=ik (by simpa using iN);subst h0;rw[←hT]at ja;simp[Builtin.append_,run_underlying tJ,run_underlying nq,sizeOf,typeInfo,hi,hlen];have h3:(Builtin.firstCells inf.size 0 y).run P W= .ok #[] W:=by simpa using ja
   rw[h3];rfl
  ·have:=cX.2 Xu;exact Xs none 0 [] ae (run_firstCells_none W.drew _ 0 0 0) be be (by simpa using this)
 ·by_cases P8:xs.length+ys.length≤cap
  ·have dm:b<W.heap.size:=(jO.1 hh).1;have u4:xs.length*inf.size+us.length≤vs.length:=by rw[iN,j9,hT,←fP];exact dY _ P8
   have bZ:=ahr (P:=P) (ty:=ty) tJ nq hi (hlen W) (by rw[hT];exact ja) hh GV P8 u4;refine⟨_,_,bZ,.inr ⟨b,cap,dy vs us (xs.length*inf.size),by simp,DJ dm,by rw[DL _ _ _ u4];exact j9,by simpa using P8,by simpa using dK,?_,hNb,hH⟩,by simp[jm],?_,ae,ae,ae,GC eI hH,?_⟩
   ·unfold dy;rw[hT];refine Xp ?_ iN (λi hi=>?_) qk
    ·simp only[fD];rw[j9];have:=dY T.n hle;omega
    ·rw[Xn _ _ _ _ hi];exact hr i hi
   ·intro k _ hk;exact DK (λe=>hk (by simp[cN,e]))
   ·intro k hk;exact .inr hk
  ·have asd:=dY T.n hle;have lM:(vs.take (xs.length*T.n)).length=xs.length*T.n:=by rw[fD,j9];omega
   refine Xs (some ⟨b,0,none⟩) cap (vs.take (xs.length*T.n)) ae ?_ lM (λi hi=>by rw[Xn _ _ _ _ hi];exact hr i hi) af;rw[hT];refine run_firstCells_some W.drew T.n xs.length ⟨b,0,none⟩ xs.length cap _ lM ?_;intro j u hj;obtain⟨fh,jy⟩:=v7.1 hj;simp only[uJ]at jy;simp only[p5,eR];have GM:W.drew.heap[b]? =some (.cells vs.toArray E (0,0)):=hh;rw[tI GM j (by simp at fh;omega),jy]
def KQ{a:Act}{o:Oper}{b:Builtin}{args:Array Operand}{di:Array TypeId}(b9:o.op= .call ⟨.builtin b,args,di⟩){W W':World}{v:Value}(h:∀cs,(Go.builtin b di o.type cs (args.map a.eval)).run P W= .ok (.value v) W'):(execOp a.eval o).run P W= .ok (.value v) W':=by rw[execOp,b9];simp only[resolve,pure_bind,invoke];exact h _
def u5:List Nat→List (Key×Option Info)
 |[]=>[]
 |id::r=>(.m id,none)::u5 r
def BB:List Nat→List (Nat×aJ)→List (Nat×aJ)
 |[],l=>l
 |id::r,l=>BB r (wC id l)
def P9(ids:List Nat)(t:Nat):a9 (u5 ids) (.s t)=none:=by
 induction ids with
 |nil=>rfl
 |cons id r ih=>simp[u5,a9,ih]
def BC(j:Nat):∀(ids:List Nat),a9 (u5 ids) (.m j)=if j∈ids then some none else none
 |[]=>by simp[u5,a9]
 |id::r=>by
  simp only[u5,a9,Key.m.injEq,dx];by_cases h:id=j
  ·simp[h]
  ·rw[aq h,BC j r];by_cases h2:j∈r
   ·simp[h2]
   ·have:¬(j=id∨j∈r):=by rintro(e|e);exact h e.symm;exact h2 e
    rw[aq h2,aq this]
def Xv(j:Nat):∀(ids:List Nat)(l:List (Nat×aJ)),ao j (BB ids l)=if j∈ids then none else ao j l
 |[],l=>by simp[BB]
 |id::r,l=>by
  simp only[BB];rw[Xv j r,GJ];by_cases h:id=j
  ·simp[h]
  ·have:¬(j=id):=λe=>h e.symm
   simp[h,this]
def ahy(st:St)(d new:Nat)(ids:List Nat)(x:AV)(b:aJ):(⟨(d,x)::st.sl,(new,b)::BB ids st.mem,st.nx,st.gd⟩:St).kn=dC st.kn ((.s d,some (.v x))::(.m new,some (.b b))::u5 ids):=by
 funext k;cases k with
 |s t=>
  by_cases e:d=t
  ·simp[St.kn,ao,dC,a9,e]
  ·simp[St.kn,ao,dC,a9,e,P9]
 |m j=>
  by_cases e:new=j
  ·simp[St.kn,ao,dC,a9,e]
  ·simp only[St.kn,ao,dC,a9,e,reduceCtorEq,Key.m.injEq,cP,Xv,BC];split<;>simp
def Xw(aT:cL P tt=true){ops:Array Oper}{i:Nat}{o:Oper}{d:Nat}(ho:ops[i]? =some o)(hg:o.guard=none)(hd:o.dst=some d){n:Nat}(aV:d<n){x y:Operand}{t1 t2:TypeId}(b9:o.op= .call ⟨.builtin .append,#[x,y],#[t1,t2]⟩)
  {st:St} {ids:List Nat} {E E2:TypeId} {T:ET} {xs ys:List T.den} (hx:(∃id,ids=[id]∧st.ev x=some (.c (.X id))∧ao id st.mem=some (.vec E T xs))∨(ids=[]∧st.ev x=some (.c (.V (.slice none 0 0)))∧xs=[]))
  (hy:st.ev y=some (.c (.S T ys))) {ti rC ei:TI} (fo:ao t1 tt=some ti) (hk:ti.kind= .sl E) (x5:ao t2 tt=some rC) (dL:rC.kind= .sl E2) (jJ:ao E tt=some ei) (kL:ei.size=T.n) (k6:ei.zero.length=T.n)
  (hb:((xs.length+ys.length)+(xs.length+ys.length)/4+192)*ei.bytes≤281474976710656) (dK:(xs.length+ys.length)*T.n≤140737488355328) (new:Nat):
  kY P n ops i st ⟨(d,.c (.X new))::st.sl,(new,.vec E T (xs++ys))::BB ids st.mem,st.nx,st.gd⟩ new (cF [x,y]++fp ids,.s d:: .m new::fp ids):=by
 refine⟨dQ st x++dQ st y++gU st ids,(.s d,some (.v (.c (.X new))))::(.m new,some (.b (.vec E T (xs++ys))))::u5 ids,?_,?_,ahy st d new ids _ _,?_,?_⟩
 ·intro F fW Q known σ g W a K dT aH bt hK;have ph:dk g (.S T ys) (a.eval y):=gy aH st y _ hy (λkx aS=>bt kx jt);have hv:GS F.N g W E T xs (a.eval x)∧(∀k,cN (a.eval x)=some k→∃id b,ids=[id]∧σ (.m id)=some (.b b)∧cN (g.γ id)=some k):=by
   rcases hx with⟨id,rfl,hx,hl⟩|⟨rfl,hx,rfl⟩
   ·have lH:a.eval x=g.γ id:=gy aH st x _ hx (λkx aS=>bt kx jt);have hσ:σ (.m id)=some (.b (.vec E T xs)):=bt (.m id,.b (.vec E T xs)) uG;rw[lH];exact⟨aH.c9 id _ hσ,λk hk=>⟨id,_,ae,hσ,hk⟩⟩
   ·have lH:a.eval x= .slice none 0 0:=gy aH st x _ hx (λkx aS=>bt kx jt);rw[lH];exact⟨.inl ⟨ae,ae⟩,by simp[cN]⟩
  obtain⟨hv,eJ⟩:=hv;have h1:=(gL aT fo).kind;rw[hk]at h1;have h2:=(gL aT x5).kind;rw[dL]at h2;obtain⟨inf,lI,sO,xV,z,xW,p8⟩:=(gL aT jJ).info;have GU:z.cells.size=inf.size:=by
   have:z.cells.toList.length=(ei.zero.map ZV.fV).length:=by rw[p8]
   simp only[V3,dJ]at this;omega
  obtain⟨v',W',bZ,ahz,cR,ahA,e1,e2,e3,eI,ahB⟩:=aht (P:=P) (ty:=o.type) aH.sub h1 h2 lI xW GU af hv ph (by rw[xV];exact hb) dK (.inl aH.below.size);unfold wpOp;simp only[ho,Region.wanted,hg,cM];refine .inl ?_;unfold Oper.wp;rw[KQ b9 (W':=W') (v:=v') (by have e:(#[x,y]:Array Operand).map a.eval= #[a.eval x,a.eval y]:=be;intro cs;rw[e];simp only[Go.builtin,Sem.run_bind,bZ,Result.andThen];rfl)];simp only[Oper.upon,hd];have P':d<a.tmps.size:=qY;let g':Gh:=⟨g.H,λid=>if id=new then v' else g.γ id⟩;have oB:iH known g g':=⟨cC.refl _,λid al=>by
   have:id≠new:=λe=>dT (e▸al)
   simp[g',this]⟩
  have Xx:∀id∈ids,∃b,σ (.m id)=some (.b b):=by
   intro id al;rcases hx with⟨b6,rfl,hx,hl⟩|⟨rfl,_⟩
   ·simp only[jw]at al;subst al;exact⟨_,bt (.m id,.b (.vec E T xs)) uG⟩
   ·cases al
  have tR:∀id∈ids,id≠new:=λid al e=>by obtain⟨b,hb⟩:=Xx id al;exact dT (e▸aH.fy _ _ hb)
  refine hK g' _ _ (aH.step (chg:=λj=>j∈ids) (g':=g') ⟨oB,λ_ _ _=>rfl,eI,cR,?_,e1,e2,e3⟩ _ new dT sc aH.defers ?_ ?_ ?_ ?_ ?_ ?_)
  ·intro k hk aN;refine ahA k hk (λe=>?_);obtain⟨id,b,rfl,hσ,oE⟩:=eJ k e;exact aN id be oE
  ·intro t ht;have aN:d≠t:=ts;simp[Act.put,nN aN]
  ·intro id al;refine⟨?_,Xx id al⟩;simp only[a9,reduceCtorEq,cP,Key.m.injEq,BC,al,cM];split<;>simp
  ·intro t u ht;simp only[a9]at ht;split at ht
   ·rename_i e;simp only[Key.s.injEq]at e;simp only[aO,Info.v.injEq]at ht;subst e;subst ht;simp[Act.put,P',bP,dk,g']
   ·simp[P9]at ht
  ·intro id b ht;simp only[a9,reduceCtorEq,cP]at ht;split at ht
   ·rename_i e;simp only[Key.m.injEq]at e;subst e;simp only[aO,Info.b.injEq]at ht;subst ht;have hr:GS F.N g' W' E T (xs++ys) (g'.γ new):=by
     have e:g'.γ new=v':=by simp[g']
     rw[e];exact ahz
    refine⟨hr,.inr ⟨ae,λk hk=>?_⟩⟩;simp only[g',cM]at hk;rcases ahB k hk with h|h
    ·exact .inl h
    ·obtain⟨id,b,GW,hσ,oE⟩:=eJ k h;refine .inr ⟨id,b,hσ,?_,oE⟩;have aN:=tR id (by simp[GW]);simp only[a9,reduceCtorEq,cP,Key.m.injEq,Ne.symm aN,BC];simp[GW]
   ·rw[BC]at ht;split at ht<;>simp at ht
  ·intro k y ht;simp only[a9]at ht;split at ht
   ·simp only[aO]at ht;subst ht;intro id al;simp[Info.aD,AV.aD,C.aD]at al;exact .inr al
   ·split at ht
    ·simp only[aO]at ht;subst ht;intro id al;simp[Info.aD,aJ.aD]at al
    ·cases k with
     |s t=>simp[P9]at ht
     |m j=>rw[BC]at ht;split at ht<;>simp at ht
  ·intro id y ht;simp only[a9,reduceCtorEq,cP]at ht;split at ht
   ·rename_i e;simp only[Key.m.injEq]at e;exact .inr e.symm
   ·rw[BC]at ht;split at ht<;>simp at ht
 ·intro kx aS;rcases bX.1 aS with h|h
  ·rcases bX.1 h with h|h
   ·exact fY _ x kx h
   ·exact fY _ y kx h
  ·exact rB _ ids kx h
 ·intro k hk;simp only[dO,dZ,bX]at hk;rcases hk with(h|h)|h
  ·exact fM _ (fR st [x,y] k yX)
  ·exact fM _ (fR st [x,y] k yY)
  ·exact jY _ (qf st ids k h)
 ·have hd:∀ids:List Nat,fe (u5 ids)=fp ids:=by
   intro ids;induction ids with
   |nil=>rfl
   |cons id r ih=>simp only[u5,fe,jF,fp]at ih⊢;rw[ih]
  intro k hk;have:fe ((.s d,some (.v (.c (.X new))))::(.m new,some (.b (.vec E T (xs++ys))))::u5 ids)= .s d:: .m new::fp ids:=by rw[←hd ids];rfl
  rw[←this];exact hk
def ahC{ops:Array Oper}{draw:Bool}{nx i:Nat}{d:Nat}{x y:Operand}{t1 t2 ty:TypeId}{pos:String}{cJ:Array Edge}{os:List Oper}{sl:List (Nat×AV)}{mem:List (Nat×aJ)}{n0:Nat}{gd:List (Nat×Bool)}{ks:List Ks}{Q:St→Prop}(aT:cL P tt=true)
  {id:Nat} {E E2:TypeId} {T:ET} {xs ys:List T.den} (hx:St.ev ⟨sl,mem,n0,gd⟩ x=some (.c (.X id))) (hl:ao id mem=some (.vec E T xs))
  (hy:St.ev ⟨sl,mem,n0,gd⟩ y=some (.c (.S T ys))) {ti rC ei:TI} (fo:ao t1 tt=some ti) (hk:ti.kind= .sl E) (x5:ao t2 tt=some rC) (dL:rC.kind= .sl E2) (jJ:ao E tt=some ei) (kL:ei.size=T.n) (k6:ei.zero.length=T.n)
  (hb:((xs.length+ys.length)+(xs.length+ys.length)/4+192)*ei.bytes≤281474976710656) (dK:(xs.length+ys.length)*T.n≤140737488355328)
  (h:RG P n ops draw nx (i+1) os ⟨(d,.c (.X (1000000*nx+1000*i)))::sl,(1000000*nx+1000*i,.vec E T (xs++ys))::wC id mem,n0,gd⟩ (fi draw ks (cF [x,y]++fp [id],[.s d,.m (1000000*nx+1000*i),.m id])) Q) (aV:Nat.blt d n=true:=by rfl):
  RG P n ops draw nx i (⟨some d,.call ⟨.builtin .append,#[x,y],#[t1,t2]⟩,ty,pos,cJ,none⟩::os) ⟨sl,mem,n0,gd⟩ ks Q:=
 kM (λho=>Xw aT ho ae ae (cT aV) ae (.inl ⟨id,ae,hx,hl⟩) hy fo hk x5 dL jJ kL k6 hb dK _) (jA h)
def ahD{ops:Array Oper}{draw:Bool}{nx i:Nat}{d:Nat}{x y:Operand}{t1 t2 ty:TypeId}{pos:String}{cJ:Array Edge}{os:List Oper}{sl:List (Nat×AV)}{mem:List (Nat×aJ)}{n0:Nat}{gd:List (Nat×Bool)}{ks:List Ks}{Q:St→Prop}(aT:cL P tt=true)
  {E E2:TypeId} {T:ET} {ys:List T.den} (hx:St.ev ⟨sl,mem,n0,gd⟩ x=some (.c (.V (.slice none 0 0))))
  (hy:St.ev ⟨sl,mem,n0,gd⟩ y=some (.c (.S T ys))) {ti rC ei:TI} (fo:ao t1 tt=some ti) (hk:ti.kind= .sl E) (x5:ao t2 tt=some rC) (dL:rC.kind= .sl E2) (jJ:ao E tt=some ei) (kL:ei.size=T.n) (k6:ei.zero.length=T.n)
  (hb:(ys.length+ys.length/4+192)*ei.bytes≤281474976710656) (dK:ys.length*T.n≤140737488355328)
  (h:RG P n ops draw nx (i+1) os ⟨(d,.c (.X (1000000*nx+1000*i)))::sl,(1000000*nx+1000*i,.vec E T ys)::mem,n0,gd⟩ (fi draw ks (cF [x,y],[.s d,.m (1000000*nx+1000*i)])) Q) (aV:Nat.blt d n=true:=by rfl):
  RG P n ops draw nx i (⟨some d,.call ⟨.builtin .append,#[x,y],#[t1,t2]⟩,ty,pos,cJ,none⟩::os) ⟨sl,mem,n0,gd⟩ ks Q:=
 kM (λho=>Xw (xs:=[]) (ids:=[]) aT ho ae ae (cT aV) ae (.inr ⟨ae,hx,ae⟩) hy fo hk x5 dL jJ kL k6 (by simpa using hb) (by simpa using dK) _) (jA (by simpa[fp,BB]using h))
end
def KR(tt:TT)(t:Nat):Option Nat:=match ao t tt with
 |some ti=>(match ti.kind with
  | .sl e=>(match ao e tt with|some ei=>some ei.size|none=>none)
  |_=>none)
 |none=>none
def Qa(tt:TT)(t:Nat)(x i:AV):Option (AV×Pr):=match x,i with
 | .c (.L id off len _),.c (.I _ k)=>(match KR tt t with
  |some sz=>some (.c (.P id (off+k.toNat*sz)),.and (.le 0 k) (.lt k len))
  |none=>none)
 |_,_=>none
def x6(m:Nat):Option AV→Nat→Option (Nat×Pr)
 |none,d=>some (d,.t)
 |some (.c (.I _ k)),_=>some (k.toNat,.and (.le 0 k) (.le k m))
 |_,_=>none
def Qb(tt:TT)(t:Nat)(x:AV)(lo hi mx:Option AV):Option (AV×Pr):=match x,KR tt t with
 | .c (.L id off len (some c)),some sz=>(match x6 c mx c with
  |some (m,p1)=>(match(if mx.isSome&& !hi.isSome then none else x6 m hi len)with
   |some (h,p2)=>(match x6 h lo 0 with
    |some (l,p3)=>some (.c (.L id (if m=l then off else off+l*sz) (h-l) (some (m-l))),.an p1 (.an p2 p3))
    |none=>none)
   |none=>none)
  |none=>none)
 | .c (.L id off len none),some _=>(match lo,mx with
  |none,none=>(match x6 len hi len with
   |some (h,p)=>some (.c (.L id off h none),p)
   |none=>none)
  |_,_=>none)
 | .c (.V (.slice none 0 0)),some _=>(match mx,x6 0 hi 0 with
  |none,some (h,p)=>(match x6 h lo 0 with
   |some (_,q)=>some (.c (.V (.slice none 0 0)),.an p q)
   |none=>none)
  |_,_=>none)
 |_,_=>none
def Qc(tt:TT)(t:Nat)(x:AV):Option AV:=match ao t tt with
 |some ti=>(match ti.kind with
  | .sl _=>(match x with
   | .c (.L _ _ len _)=>some (.c (.I .i64 len))
   |_=>none)
  |_=>none)
 |none=>none
def Xy(c x y:Option AV):Option (AV×Pr):=match c,x,y with
 |some (.c (.B true)),some v,_=>some (v,.t)
 |some (.c (.B false)),_,some v=>some (v,.t)
 |_,_,_=>none
def GX(tt:TT)(st:St):Op→Option (AV×Pr)
 | .pick c x y=>Xy (st.ev c) (st.ev x) (st.ev y)
 | .indexAddr t x i=>(match st.ev x,st.ev i with|some v,some w=>Qa tt t v w|_,_=>none)
 | .slice t x lo hi mx=>(match st.ev x,zz st lo,zz st hi,zz st mx with|some v,some l,some h,some m=>Qb tt t v l h m|_,_,_,_=>none)
 | .call ⟨.builtin .len,args,di⟩=>(match args.toList,di.toList with
  |[x],[t]=>(match st.ev x with|some v=>(match Qc tt t v with|some u=>some (u,.t)|none=>none)|none=>none)
  |_,_=>none)
 |_=>none
section
variable{P:Program}{tt:TT}{g:Gh}{W:World}
def KS(aT:cL P tt=true){t n:Nat}(h:KR tt t=some n):∃e i,P.underlying t=some (.slice e)∧P.info? e=some i∧i.size=n:=by
 refine DI aT ?_;unfold KR at h;unfold wA;split at h
 ·rename_i ti hl;split at h
  ·rename_i e hk;split at h
   ·rename_i ei he;have h':ei.size=n:=Gc h;simp[hl,hk,he,h']
   ·simp at h
  ·simp at h
 ·simp at h
def ahE(aT:cL P tt=true){t:Nat}{x i y:AV}{p:Pr}(h:Qa tt t x i=some (y,p))(hp:p){v u:Value}(hv:bP g x v)(hu:bP g i u):(∃z,(Instr.indexAt t v u).run P W= .ok z W∧bP g y z)∧∀id∈y.aD,id∈x.aD:=by
 unfold Qa at h;split at h
 ·rename_i id off len cap k' k;split at h
  ·rename_i sz cR;simp only[aO,cD]at h;obtain⟨rfl,rfl⟩:=h;obtain⟨e,i,mT,hi,hs⟩:=KS aT cR;have jh:u= .int k' k:=hu;subst jh;have sH:0≤k∧k<(len:Int):=hp;have j7:∃b c,cN (g.γ id)=some b∧v= .slice (some ⟨b,off,none⟩) len c:=by
    cases cap with
    |some c=>obtain⟨b,h1,h2⟩:=hv;exact⟨b,c,h1,h2⟩
    |none=>obtain⟨h0,b,c,h1,h2,_⟩:=hv;subst h0;exact⟨b,c,by rw[h1];rfl,h2⟩
   obtain⟨b,c,hb,rfl⟩:=j7;refine⟨⟨.pointer (some ⟨b,off+k.toNat*sz,none⟩),?_,b,hb,ae⟩,by simp[AV.aD,C.aD]⟩;simp only[Instr.indexAt,asIntOf,Sem.run_bind,run_underlying mT,Result.andThen];simp[sH,run_sizeOf hi,hs,p5]
  ·simp at h
 ·simp at h
def x7{m:Nat}{x:Option AV}{d h:Nat}{p:Pr}(hb:x6 m x d=some (h,p))(hp:p){v:Option Value}(hv:zA g x v)(code:BoundsCode):
  (x=none∧v=none∧h=d)∨(∃u,x.isSome=true∧v=some u∧h≤m∧(Instr.sliceBound u m code).run P W= .ok h W):=by
 unfold x6 at hb
 split at hb
 ·simp only[aO,cD]at hb;cases v with
  |none=>exact .inl ⟨ae,ae,hb.1.symm⟩
  |some u=>exact hv.elim
 ·rename_i k' k;simp only[aO,cD]at hb;obtain⟨rfl,rfl⟩:=hb;cases v with
  |none=>exact hv.elim
  |some u=>
   have j7:u= .int k' k:=hv
   subst j7
   have Py:0≤k∧k≤(m:Int):=hp
   refine .inr ⟨_,ae,ae,by omega,?_⟩
   simp[Instr.sliceBound,asIntOf,Py,Sem.run,pure]
 ·simp at hb
def ahF(aT:cL P tt=true){t:Nat}{x y:AV}{lo hi mx:Option AV}{p:Pr}(h:Qb tt t x lo hi mx=some (y,p))(hp:p){v:Value}{vl vh vm:Option Value}(hv:bP g x v)
  (hl:zA g lo vl) (hh:zA g hi vh) (hm:zA g mx vm):
  (∃z,(Instr.sliceAt t v vl vh vm).run P W= .ok z W∧bP g y z)∧∀id∈y.aD,id∈x.aD:=by
 unfold Qb at h
 split at h
 ·rename_i id off len c sz cR;obtain⟨e,i,mT,xM,hs⟩:=KS aT cR;split at h
  ·rename_i m p1 jl;split at h
   ·rename_i nv p2 dK;split at h
    ·rename_i l p3 Qd;simp only[aO,cD]at h;obtain⟨rfl,rfl⟩:=h;obtain⟨jk,ahG⟩:=Pr.DE hp;obtain⟨iJ,u6⟩:=Pr.DE ahG;obtain⟨b,pZ,rfl⟩:=hv;have oZ:¬(mx.isSome=true∧hi.isSome=false):=by intro hc;rw[aw (by simp[hc.1,hc.2])]at dK;cases dK
     have Gu:x6 m hi len=some (nv,p2):=by rw[aq (by intro hc;simp only[eQ,JW]at hc;exact oZ hc)]at dK;exact dK
     refine⟨⟨.slice (if m=l then some ⟨b,off,none⟩else some ⟨b,off+l*sz,none⟩) (nv-l) (m-l),?_,b,pZ,?_⟩,by simp[AV.aD,C.aD]⟩
     ·have nT:(Instr.sliceBounds true len c vl vh vm).run P W= .ok (l,nv,m) W:=by
       unfold Instr.sliceBounds;rcases x7 (P:=P) (W:=W) jl jk hm .slice3Acap with⟨wy,rfl,rfl⟩|⟨u1,wy,rfl,_,nU⟩
       ·rcases x7 (P:=P) (W:=W) Gu iJ hh .sliceAcap with⟨D2,rfl,rfl⟩|⟨u2,D2,rfl,_,p6⟩
        ·rcases x7 (P:=P) (W:=W) Qd u6 hl .sliceB with⟨zO,rfl,rfl⟩|⟨u3,zO,rfl,_,GY⟩<;>simp[*]
        ·rcases x7 (P:=P) (W:=W) Qd u6 hl .sliceB with⟨zO,rfl,rfl⟩|⟨u3,zO,rfl,_,GY⟩<;>simp[*]
       ·rcases x7 (P:=P) (W:=W) Gu iJ hh .slice3B with⟨D2,rfl,rfl⟩|⟨u2,D2,rfl,_,p6⟩
        ·exact absurd ⟨wy,by simp[D2]⟩ oZ
        ·rcases x7 (P:=P) (W:=W) Qd u6 hl .slice3C with⟨zO,rfl,rfl⟩|⟨u3,zO,rfl,_,GY⟩<;>simp[*]
      simp only[Instr.sliceAt,Sem.run_bind,run_underlying mT,Result.andThen,Instr.slice,nT,run_sizeOf xM,hs];split<;>simp[pure,p5]
     ·split<;>rfl
    ·simp at h
   ·simp at h
  ·simp at h
 ·rename_i id off len sz cR;obtain⟨e,i,mT,xM,hs⟩:=KS aT cR;split at h
  ·split at h
   ·rename_i nv p1 jl;simp only[aO,cD]at h;obtain⟨rfl,rfl⟩:=h;obtain⟨h0,b,c,hγ,rfl,hle⟩:=hv;subst h0;have j9:vl=none:=by cases vl with|none=>rfl|some _=>exact hl.elim
    have Qe:vm=none:=by cases vm with|none=>rfl|some _=>exact hm.elim
    subst j9 Qe;have Gt:=Px (P:=P) (W:=W) (n:=len) (x:=hi) (d:=len) (h:=nv) (p:=p1) (by rw[←jl];cases hi with|none=>rfl|some q=>cases q with|c q=>cases q<;>rfl|_=>rfl) hp hh c hle .sliceAcap;have Gv:nv≤len:=by rcases Gt with⟨_,_,e⟩|⟨_,_,h,_⟩<;>omega
    refine⟨⟨.slice (some ⟨b,0,none⟩) nv c,?_,ae,b,c,hγ,ae,by omega⟩,by simp[AV.aD,C.aD]⟩;have nT:(Instr.sliceBounds true len c none vh none).run P W= .ok (0,nv,c) W:=by unfold Instr.sliceBounds;rcases Gt with⟨_,rfl,rfl⟩|⟨u,rfl,_,nU⟩<;>simp[*]
    simp only[Instr.sliceAt,Sem.run_bind,run_underlying mT,Result.andThen,Instr.slice,nT,run_sizeOf xM,hs];simp[pure,p5]
   ·simp at h
  ·simp at h
 ·rename_i sz cR;obtain⟨e,i,mT,xM,hs⟩:=KS aT cR;split at h
  ·rename_i nv p1 jl;split at h
   ·rename_i l p2 dK;simp only[aO,cD]at h;obtain⟨rfl,rfl⟩:=h;obtain⟨jk,iJ⟩:=Pr.DE hp;have j7:v= .slice none 0 0:=hv;subst j7;have Qe:vm=none:=by cases vm with|none=>rfl|some _=>exact hm.elim
    subst Qe;refine⟨⟨.slice none 0 0,?_,ae⟩,by simp[AV.aD,C.aD]⟩;have nT:(Instr.sliceBounds true 0 0 vl vh none).run P W= .ok (0,0,0) W:=by
     unfold Instr.sliceBounds;rcases x7 (P:=P) (W:=W) jl jk hh .sliceAcap with⟨_,rfl,rfl⟩|⟨u1,_,rfl,ase,nU⟩
     ·rcases x7 (P:=P) (W:=W) dK iJ hl .sliceB with⟨_,rfl,rfl⟩|⟨u2,_,rfl,Gv,p6⟩
      ·simp[*]
      ·have:l=0:=by omega
       subst this;simp[*]
     ·have:nv=0:=by omega
      subst this;rcases x7 (P:=P) (W:=W) dK iJ hl .sliceB with⟨_,rfl,rfl⟩|⟨u2,_,rfl,Gv,p6⟩
      ·simp[*]
      ·have:l=0:=by omega
       subst this;simp[*]
    simp only[Instr.sliceAt,Sem.run_bind,run_underlying mT,Result.andThen,Instr.slice,nT,run_sizeOf xM,hs];simp[pure]
   ·simp at h
  ·simp at h
 ·simp at h
def ahH(aT:cL P tt=true){t r:Nat}{x y:AV}(h:Qc tt t x=some y){v:Value}(hv:bP g x v):(Builtin.len_ #[t] r #[v]).run P W= .ok (match y with| .c (.I k n)=> .int k n|_=>undef) W∧(∃n:Int,y= .c (.I .i64 n)):=by
 unfold Qc at h;split at h
 ·rename_i ti hl;split at h
  ·rename_i e hk;split at h
   ·rename_i id off len cap _;simp only[aO]at h;subst h;have h2:=(gL aT hl).kind;rw[hk]at h2;have j7:∃a c,v= .slice a len c:=by
     cases cap with
     |some c=>obtain⟨b,h1,h2⟩:=hv;exact⟨_,c,h2⟩
     |none=>obtain⟨h0,b,c,h1,h2,_⟩:=hv;exact⟨_,c,h2⟩
    obtain⟨a,c,rfl⟩:=j7;exact⟨by simp[Builtin.len_,run_underlying h2,goInt,Sem.run,pure],_,ae⟩
   ·simp at h
  ·simp at h
 ·simp at h
def ahI(aT:cL P tt=true){ops:Array Oper}{i:Nat}{o:Oper}{d:Nat}(ho:ops[i]? =some o)(hg:o.guard=none)(hd:o.dst=some d){n:Nat}(aV:d<n)
  {st:St} {x:AV} {p:Pr} (he:GX tt st o.op=some (x,p)) (hp:p) (new:Nat):mj P n ops i (o9 st o.op) [(.s d,some (.v x))] new:=by
 refine uS ho hg hd aV _ x new ?_
 intro F known σ g W a aH bt
 have fG:∀y∈o.op.operands,∀kx∈dQ st y,σ kx.1=some kx.2:=by intro y hy kx aS;exact bt kx (jE.2 ⟨y,by simpa using hy,aS⟩)
 have dR:∀y∈o.op.operands,∀u,st.ev y=some u→bP g u (a.eval y)∧∀id∈u.aD,known id:=by intro y hy u hu;exact⟨gy aH st y u hu (fG y hy),uR aH st y u hu (fG y hy)⟩
 generalize b9:o.op=op at he dR fG
 unfold GX at he
 split at he
 ·rename_i c y z;unfold Xy at he;split at he
  ·rename_i v hc hy;simp only[aO,cD]at he;obtain⟨rfl,rfl⟩:=he;have h0:a.eval c= .bool true:=(dR c iF _ hc).1;have h1:=dR y iF _ hy;exact⟨h1.2,_,by simp[execOp,b9,h0,asBool,Sem.run,pure],h1.1⟩
  ·rename_i v hc hy;simp only[aO,cD]at he;obtain⟨rfl,rfl⟩:=he;have h0:a.eval c= .bool false:=(dR c iF _ hc).1;have h1:=dR z iF _ hy;exact⟨h1.2,_,by simp[execOp,b9,h0,asBool,Sem.run,pure],h1.1⟩
  ·simp at he
 ·rename_i t y z;split at he
  ·rename_i v w hv hw;have h1:=dR y iF _ hv;have h2:=dR z iF _ hw;obtain⟨⟨u,bZ,bU⟩,hm⟩:=ahE (P:=P) (W:=W) aT he hp h1.1 h2.1;exact⟨λid al=>h1.2 id (hm id al),u,by simp[execOp,b9,bZ,Sem.run,pure],bU⟩
  ·simp at he
 ·rename_i t y lo hi mx;split at he
  ·rename_i v l h m hv hl hh hm;have h1:=dR y iF _ hv;have h2:=Gw aH st lo l hl (λq hq=>fG q JD);have h3:=Gw aH st hi h hh (λq hq=>fG q JD);have h4:=Gw aH st mx m hm (λq hq=>fG q JD);obtain⟨⟨u,bZ,bU⟩,hm⟩:=ahF (P:=P) (W:=W) aT he hp h1.1 h2 h3 h4;exact⟨λid al=>h1.2 id (hm id al),u,by simp[execOp,b9,bZ,Sem.run,pure],bU⟩
  ·simp at he
 ·rename_i args di;split at he
  ·rename_i y t ha ht;have kv:args= #[y]:=JE;have Gx:di= #[t]:=VB;subst kv Gx;split at he
   ·rename_i v hv;split at he
    ·rename_i u hu;simp only[aO,cD]at he;obtain⟨rfl,rfl⟩:=he;have h1:=dR y FM _ hv;obtain⟨bZ,n',rfl⟩:=ahH (P:=P) (W:=W) (r:=o.type) aT hu h1.1;exact⟨by simp[AV.aD,C.aD],.int .i64 n',KQ b9 (λcs=>by have e:(#[y]:Array Operand).map a.eval= #[a.eval y]:=be;rw[e];simp only[Go.builtin,Sem.run_bind,bZ,Result.andThen];rfl),ae⟩
    ·simp at he
   ·simp at he
  ·simp at he
 ·simp at he
end
section
variable{P:Program}{tt:TT}
def ahJ{ops:Array Oper}{i:Nat}{o:Oper}{d:Nat}(ho:ops[i]? =some o)(hg:o.guard=none)(hd:o.dst=some d){n:Nat}(aV:d<n){E:TypeId}(rd:List (Key×Info))(cs:List C)(sz len:Nat)(Qf:Option Nat)(new:Nat)
  (h:∀(F:c8)(known:Nat→Prop)(σ:Kn)(g:Gh)(W:World)(a:Act),bJ F known σ g W a→(∀kx∈rd,σ kx.1=some kx.2)→
   (∀id∈cA cs,known id)∧∃(vs rest:List Value)(cap:Nat)(W1:World),bS g cs vs∧(execOp a.eval o).run P W= .ok (.value (.slice (some ⟨W.heap.size,0,none⟩) len cap)) {W1 with heap:=W.heap.push (.cells (vs++rest).toArray E (0,0))}∧
    W1.os=W.os∧W1.tape=W.tape∧W1.output=W.output∧(∀c,Qf=some c→cap=c)∧(sz≠0→(vs++rest).length=cap*sz)∧len≤cap):
  mj P n ops i rd [(.s d,some (.v (.c (.L new 0 len Qf)))),(.m new,some (.b (.box E sz cs)))] new:=by
 intro F fW Q known σ g W a K dT aH bt hK
 obtain⟨hm,vs,rest,cap,W1,hr,bZ,e1,e2,e3,pc,ahK,hlen⟩:=h F known σ g W a aH bt
 unfold wpOp
 simp only[ho,Region.wanted,hg,cM]
 refine .inl ?_
 unfold Oper.wp
 rw[bZ]
 simp only[Oper.upon,hd]
 have cR:d<a.tmps.size:=qY
 let g':Gh:=⟨g.H,λid=>if id=new then .slice (some ⟨W.heap.size,0,none⟩) 0 cap else g.γ id⟩
 have ny:g'.γ new= .slice (some ⟨W.heap.size,0,none⟩) 0 cap:=by simp[g']
 have hle:iH known g g':=⟨cC.refl _,λid al=>by
  have:id≠new:=λe=>dT (e▸al)
  simp[g',this]⟩
 have xN:∀o,g.H W.heap.size o=none:=by
  intro o;cases hv:g.H W.heap.size o with
  |none=>rfl
  |some v=>
   have:=World.block_lt_of_cell? W _ (aH.sub _ _ _ hv)
   simp at this
 have eI:Sub g.H {W1 with heap:=W.heap.push (.cells (vs++rest).toArray E (0,0))}:=by have:=GF aH.sub (.cells (vs++rest).toArray E (0,0));exact this
 refine hK g' _ _ (aH.step (chg:=λ_=>False) (g':=g') ⟨hle,λ_ _ _=>rfl,eI,by simp,λk hk _=>GD W _ k hk,e1,e2,e3⟩ _ new dT sc aH.defers ?_ (λ_ h=>h.elim) ?_ ?_ ?_ ?_)
 ·intro t ht;have aN:d≠t:=ts;simp[Act.put,nN aN]
 ·intro t u ht;simp only[a9]at ht;split at ht
  ·rename_i e;simp only[Key.s.injEq]at e;simp only[aO,Info.v.injEq]at ht;subst e;subst ht;have tP:(a.put (some d) (.slice (some ⟨W.heap.size,0,none⟩) len cap)).tmps.getD d undef= .slice (some ⟨W.heap.size,0,none⟩) len cap:=by simp[Act.put,cR]
   show dk g' _ _;rw[tP];cases Qf with
   |some c=>have:=pc c ae;subst this;exact⟨W.heap.size,by rw[ny];rfl,ae⟩
   |none=>exact⟨ae,W.heap.size,cap,ny,ae,hlen⟩
  ·split at ht
   ·simp at ht
   ·simp at ht
 ·intro id b ht;simp only[a9,reduceCtorEq,cP]at ht;split at ht
  ·rename_i e;simp only[Key.m.injEq]at e;subst e;simp only[aO,Info.b.injEq]at ht;subst ht;refine⟨⟨W.heap.size,vs,rest,by rw[ny];rfl,by simp,bS.mono hle hm hr,.inl aH.below.size,xN,λh0=>⟨cap,ny,ahK h0⟩⟩,.inr ⟨ae,λk hk=> .inl ?_⟩⟩;rw[ny]at hk;simp only[cN,aO]at hk;omega
  ·simp at ht
 ·intro k y ht;simp only[a9]at ht;split at ht
  ·simp only[aO]at ht;subst ht;intro id al;simp[Info.aD,AV.aD,C.aD]at al;exact .inr al
  ·split at ht
   ·simp only[aO]at ht;subst ht;exact λid al=> .inl (hm id al)
   ·simp at ht
 ·intro id y ht;simp only[a9,reduceCtorEq,cP]at ht;split at ht
  ·rename_i e;simp only[Key.m.injEq]at e;exact .inr e.symm
  ·simp at ht
def ahL(aT:cL P tt=true){ops:Array Oper}{i:Nat}{o:Oper}{d:Nat}(ho:ops[i]? =some o)(hg:o.guard=none)(hd:o.dst=some d){n:Nat}(aV:d<n){t:TypeId}{x y:Operand}(b9:o.op= .makeSlice t x y)
  {st:St} {m:Nat} {k k2:IntKind} (hx:st.ev x=some (.c (.I k (m:Int)))) (hy:st.ev y=some (.c (.I k2 (m:Int)))) {E:Nat} {ti ei:TI} (fo:ao t tt=some ti) (hk:ti.kind= .sl E) (jJ:ao E tt=some ei) (oD:0<ei.size) (hb:m*ei.bytes≤16777216) (dK:m≤16777216) (new:Nat):
  mj P n ops i (o9 st o.op) [(.s d,some (.v (.c (.L new 0 m (some m))))),(.m new,some (.b (.box E 0 (x4 (ei.zero.map ZV.sD) m))))] new:=by
 refine ahJ ho hg hd aV _ _ _ _ _ new ?_
 intro F known σ g W a aH bt
 have hr:a.eval x= .int k (m:Int):=gy aH st x _ hx (λkx aS=>bt kx VC)
 have p6:a.eval y= .int k2 (m:Int):=gy aH st y _ hy (λkx aS=>bt kx VC)
 have hu:=(gL aT fo).kind
 rw[hk]at hu
 obtain⟨inf,lI,sO,xV,z,xW,p8⟩:=(gL aT jJ).info
 have k6:(ei.zero.map ZV.fV).length=ei.size:=by simpa using(gL aT jJ).Pl
 have uU:z.cells=(ei.zero.map ZV.fV).toArray:=FO
 have PY:(ei.zero.map ZV.fV)≠[]:=by intro e;rw[e]at k6;simp at k6;omega
 have PZ:(inf.bytes:Int)*(m:Int)≤281474976710656:=by
  rw[xV];have:(ei.bytes:Int)*(m:Int)=((m*ei.bytes:Nat):Int):=by rw[g9];simp
  rw[this];omega
 have bZ:=run_make (P:=P) W t E inf z hu lI xW k k2 m m af af PZ af
 refine⟨by rw[P6 (Kw _)];simp,(List.replicate m (ei.zero.map ZV.fV)).flatten,[],m,W,P4 (DN g ei.zero) m,?_,ae,ae,ae,λc hc=>Gc hc,by simp,bF _⟩
 rw[execOp,b9]
 have By:madeCells z.cells (m*inf.size)=((List.replicate m (ei.zero.map ZV.fV)).flatten).toArray:=by rw[sO,uU,←k6,←PX _ m PY];rfl
 simp only[bw]at bZ
 rw[By]at bZ
 simp only[hr,p6,Sem.run_bind,bZ,Result.andThen,kp]
 rfl
end
def KT(st:St)(sz:Nat):AV→Option (Nat×List C×List Nat)
 | .c (.L id off len _)=>(match ao id st.mem with
  |some (.box _ _ cs)=>if off+len*sz≤cs.length then some (len,(cs.drop off).take (len*sz),[id])else none
  |some (.fz _ cs)=>if off+len*sz≤cs.length then some (len,(cs.drop off).take (len*sz),[id])else none
  |_=>none)
 | .c (.S T ys)=>if T.n=sz then some (ys.length,ys.flatMap (av T),[])else none
 | .c (.V (.slice none 0 0))=>some (0,[],[])
 |_=>none
section
variable{P:Program}{tt:TT}
def Qg{u:Value}(h:pe u=true):u.oneCell'=true:=by revert h;cases u<;>simp[pe,Value.oneCell']
def Xz{T:ET}:∀(ys:List T.den),∀c∈ys.flatMap (av T),rz c=true
 |[],c,h=>by simp at h
 |y::ys,c,h=>by
  simp only[gJ,bX]at h;rcases h with h|h
  ·exact DP T y c h
  ·exact Xz ys c h
def XA{T:ET}:∀(ys:List T.den),cA (ys.flatMap (av T))=[]
 |[]=>rfl
 |y::ys=>by
  refine List.eq_nil_iff_forall_not_mem.2 λid al=>?_
  rw[gJ]at al;rcases Kr _ _ id al with h|h
  ·rw[GB]at h;cases h
  ·rw[XA ys]at h;cases h
def XB{g:Gh}(T:ET):∀(xs:List T.den)(vs:List Value),vs.length=xs.length*T.n→(∀i(h:i<xs.length),dh g.H T xs[i] ((vs.drop (i*T.n)).take T.n))→bS g (xs.flatMap (av T)) vs
 |[],vs,hl,_=>by have:vs=[]:=ik FN;subst this;rfl
 |x::xs,vs,hl,h=>by rw[gJ];have h0:=h 0 be;simp only[A5,wi,xx]at h0;have hlen:(vs.take T.n).length=T.n:=dh.length T _ _ h0;have:=bS.append (Dr (g:=g) T x _ h0) (XB T xs (vs.drop T.n) (by simp at hl⊢;rw[hl,fP];omega) (λi hi=>by have:=h (i+1) (by simpa using hi);simp only[FY]at this;rw[xF];rw[show T.n+i*T.n=(i+1)*T.n by rw[fP];omega];exact this));rwa[AY]at this
def XC{F:c8}{known:Nat→Prop}{σ:Kn}{g:Gh}{W:World}{a:Act}(aH:bJ F known σ g W a){st:St}{y:AV}{sz m:Nat}{cs:List C}{ids:List Nat}(h:KT st sz y=some (m,cs,ids)){v:Value}(hv:bP g y v)
  (bt:∀id∈ids,∀b,ao id st.mem=some b→σ (.m id)=some (.b b)) {t e:TypeId} (hu:P.underlying t=some (.slice e)) (rA:cs.all rz=true):
  ∃us:List Value,Src P sz t v m us W∧bS g cs us∧(∀id∈cA cs,known id)∧∀u∈us,pe u=true:=by
 have iK:∀us,bS g cs us→∀u∈us,pe u=true:=λus hr=>hr.one (λc hc=>wg.1 rA c hc)
 unfold KT at h
 split at h
 ·rename_i id off len cap;split at h
  ·rename_i E bz Qh hl;split at h
   ·rename_i u4;simp only[aO,cD]at h;obtain⟨rfl,rfl,rfl⟩:=h;have hσ:=bt id be _ hl;obtain⟨b,vs,rest,hγ,hh,hr,hN,hz,Bj⟩:=aH.c9 id _ hσ;have j7:∃c,v= .slice (some ⟨b,off,none⟩) len c:=by
     cases cap with
     |some c=>
      obtain⟨b',h1,h2⟩:=hv
      rw[hγ]at h1
      cases h1
      exact⟨c,h2⟩
     |none=>
      obtain⟨h0,b',c,h1,h2,_⟩:=hv
      rw[h1]at hγ
      simp only[cN,aO]at hγ
      subst hγ h0
      exact⟨c,h2⟩
    obtain⟨c,rfl⟩:=j7;have kA:bS g ((Qh.drop off).take (len*sz)) ((vs.drop off).take (len*sz)):=(hr.drop off).take _;have j9:=hr.length;have iN:((vs.drop off).take (len*sz)).length=len*sz:=cO;refine⟨_,Src.ofSlice W hu ⟨b,off,none⟩ len c _ iN ?_ (λu jh=>Qg (iK _ kA u jh)),kA,?_,iK _ kA⟩
    ·intro j u hj;obtain⟨fh,jy⟩:=v7.1 hj;simp only[uJ,we]at jy;have nS:off+j<vs.length:=by rw[iN]at fh;omega
     simp only[p5];rw[tI hh (off+j) cO,y9 nS,jy]
    ·intro b6 sA;exact aH.aD _ _ hσ b6 (Kj _ _ _ (Kk _ _ _ sA))
   ·simp at h
  ·rename_i E Qh hl;split at h
   ·rename_i u4;simp only[aO,cD]at h;obtain⟨rfl,rfl,rfl⟩:=h;have hσ:=bt id be _ hl;obtain⟨b,vs,rest,hγ,hh,hr,hN,hz⟩:=aH.c9 id _ hσ;have j7:∃c,v= .slice (some ⟨b,off,none⟩) len c:=by
     cases cap with
     |some c=>
      obtain⟨b',h1,h2⟩:=hv
      rw[hγ]at h1
      cases h1
      exact⟨c,h2⟩
     |none=>
      obtain⟨h0,b',c,h1,h2,_⟩:=hv
      rw[h1]at hγ
      simp only[cN,aO]at hγ
      subst hγ h0
      exact⟨c,h2⟩
    obtain⟨c,rfl⟩:=j7;have kA:bS g ((Qh.drop off).take (len*sz)) ((vs.drop off).take (len*sz)):=(hr.drop off).take _;have j9:=hr.length;have iN:((vs.drop off).take (len*sz)).length=len*sz:=cO;refine⟨_,Src.ofSlice W hu ⟨b,off,none⟩ len c _ iN ?_ (λu jh=>Qg (iK _ kA u jh)),kA,?_,iK _ kA⟩
    ·intro j u hj;obtain⟨fh,jy⟩:=v7.1 hj;simp only[uJ,we]at jy;have nS:off+j<vs.length:=by rw[iN]at fh;omega
     simp only[p5];rw[tI hh (off+j) cO,y9 nS,jy]
    ·intro b6 sA;exact aH.aD _ _ hσ b6 (Kj _ _ _ (Kk _ _ _ sA))
   ·simp at h
  ·simp at h
 ·rename_i T ys;split at h
  ·rename_i hT;simp only[aO,cD]at h;obtain⟨rfl,rfl,rfl⟩:=h;subst hT;obtain⟨us,h1,h2,h3,h4⟩:=Xl (P:=P) hv;have hlen:∀w':World,(Builtin.lenOf v).run P w'= .ok ys.length w':=by obtain⟨a,cap,rfl,_⟩:=hv;intro w';rfl
   exact⟨us,⟨.inl ⟨_,hu⟩,hlen,h1 W aH.sub,h1 W.drew aH.sub,h2,λu hu=>Qg (h4 u hu)⟩,XB T ys us h2 h3,by rw[XA];simp,h4⟩
  ·simp at h
 ·simp only[aO,cD]at h;obtain⟨rfl,rfl,rfl⟩:=h;have j7:v= .slice none 0 0:=hv;subst j7;exact⟨[],Src.ofNil W hu 0,ae,by simp[cA],by simp⟩
 ·simp at h
end
section
variable{P:Program}{tt:TT}
structure ahM(P:Program)(t1 t2 E:TypeId)(sz:Nat)(bytes:Nat):Prop where
 u1:P.underlying t1=some (.slice E)
 u2:∃e,P.underlying t2=some (.slice e)
 info:∃inf z,P.info? E=some inf∧inf.size=sz∧inf.bytes=bytes∧inf.zero=some z∧z.cells.size=sz
 pos:0<sz
def XD{st:St}{ids:List Nat}{σ:Kn}(h:∀kx∈gU st ids,σ kx.1=some kx.2):∀id∈ids,∀b,ao id st.mem=some b→σ (.m id)=some (.b b):=by intro id al b hb;exact h (.m id,.b b) (jE.2 ⟨id,al,by simp[hb]⟩)
end
section
variable{P:Program}{tt:TT}
def ahN{a:Act}{d t:Nat}{v:Value}{wr:List (Key×Option Info)}{x:Option Info}(ht:a9 ((.s d,x)::wr) (.s t)=none):(a.put (some d) v).tmps.getD t undef=a.tmps.getD t undef:=by have aN:d≠t:=ts;simp[Act.put,nN aN]
end
section
variable{P:Program}{tt:TT}
def rD(st:St):List Operand→Option (List (Bool×List C))
 |[]=>some []
 |x::xs=>(match st.ev x with
  |some v=>(match wH v,rD st xs with
   |some s,some r=>some (s::r)
   |_,_=>none)
  |none=>none)
def ahO{v:AV}{s:Bool×List C}(h:wH v=some s):cA s.2=v.aD:=by
 cases v with
 |c x=>simp only[wH,aO]at h;subst h;simp[cA,AV.aD]
 |a cs=>simp only[wH,aO]at h;subst h;rfl
 |t _=>simp[wH]at h
def GZ{F:c8}{known:Nat→Prop}{σ:Kn}{g:Gh}{W:World}{a:Act}(h:bJ F known σ g W a)(st:St):∀(xs:List Operand)(ss:List (Bool×List C)),rD st xs=some ss→
  (∀kx∈xs.flatMap (dQ st),σ kx.1=some kx.2)→dt g ss (xs.map a.eval)∧∀id∈fE ss,known id
 |[],ss,he,_=>by simp only[rD,aO]at he;subst he;exact⟨ae,by simp[fE]⟩
 |x::xs,ss,he,hr=>by
  simp only[rD]at he;split at he
  ·rename_i v hv;split at he
   ·rename_i s r hs D3;simp only[aO]at he;subst he;have h1:=gy h st x v hv (λkx aS=>hr kx jt);have h1m:=uR h st x v hv (λkx aS=>hr kx jt);obtain⟨h2,h2m⟩:=GZ h st xs r D3 (λkx aS=>hr kx (by simp only[gJ,bX];exact .inr aS));refine⟨⟨_,_,ae,W8 hs h1,h2⟩,?_⟩;intro id al;simp only[fE,bX]at al;rcases al with al|al
    ·rw[ahO hs]at al;exact h1m id al
    ·exact h2m id al
   ·simp at he
  ·simp at he
def ahR{ops:Array Oper}{i:Nat}{o:Oper}{d:Nat}(ho:ops[i]? =some o)(hg:o.guard=none)(hd:o.dst=some d){n:Nat}(aV:d<n){f:FuncId}{first caps:Array Operand}(b9:o.op= .makeFunc (.func f) first caps)
  {st:St} {fs cs:List (Bool×List C)} (hf:rD st first.toList=some fs) (hc:rD st caps.toList=some cs) (new:Nat):
  mj P n ops i ((first.toList++caps.toList).flatMap (dQ st)) [(.s d,some (.v (.c (.X new)))),(.m new,some (.b (.fQ f fs cs)))] new:=by
 intro F fW Q known σ g W a K dT aH bt hK
 obtain⟨D4,XE⟩:=GZ aH st _ _ hf (λkx aS=>bt kx (by rw[za];exact fM _ aS))
 obtain⟨lJ,uX⟩:=GZ aH st _ _ hc (λkx aS=>bt kx (by rw[za];exact jY _ aS))
 have hex:(execOp a.eval o).run P W= .ok (.value (.func (.func f) (first.toList.map a.eval).toArray (caps.toList.map a.eval).toArray)) W:=by rw[execOp,b9];have e1:first.map a.eval=(first.toList.map a.eval).toArray:=vX;have e2:caps.map a.eval=(caps.toList.map a.eval).toArray:=vX;simp only[Instr.makeFunc,e1,e2];rfl
 unfold wpOp
 simp only[ho,Region.wanted,hg,cM]
 refine .inl ?_
 unfold Oper.wp
 rw[hex]
 simp only[Oper.upon,hd]
 have P':d<a.tmps.size:=qY
 let v:Value:= .func (.func f) (first.toList.map a.eval).toArray (caps.toList.map a.eval).toArray
 let g':Gh:=⟨g.H,λid=>if id=new then v else g.γ id⟩
 have ny:g'.γ new=v:=by simp[g']
 have oB:iH known g g':=⟨cC.refl _,λid al=>by
  have:id≠new:=λe=>dT (e▸al)
  simp[g',this]⟩
 refine hK g' _ _ (aH.step (chg:=λ_=>False) (g':=g') ⟨oB,λ_ _ _=>rfl,aH.sub,bF _,λ_ _ _=>rfl,ae,ae,ae⟩ _ new dT sc aH.defers (λt ht=>ahN ht) (λ_ h=>h.elim) ?_ ?_ ?_ ?_)
 ·intro t u ht;simp only[a9]at ht;split at ht
  ·rename_i e;simp only[Key.s.injEq]at e;simp only[aO,Info.v.injEq]at ht;subst e;subst ht;show _=g'.γ new;rw[ny];simp[Act.put,P',v]
  ·simp at ht
 ·intro id b ht;simp only[a9,reduceCtorEq,cP]at ht;split at ht
  ·rename_i e;simp only[Key.m.injEq]at e;subst e;simp only[aO,Info.b.injEq]at ht;subst ht;refine⟨⟨_,_,ny,dt.mono oB XE D4,dt.mono oB uX lJ⟩,.inr ⟨ae,λk hk=>?_⟩⟩;rw[ny]at hk;simp[cN,v]at hk
  ·simp at ht
 ·intro k y ht;simp only[a9]at ht;split at ht
  ·simp only[aO]at ht;subst ht;intro id al;simp[Info.aD,AV.aD,C.aD]at al;exact .inr al
  ·split at ht
   ·simp only[aO]at ht;subst ht;intro id al;rcases bX.1 al with h|h
    ·exact .inl (XE id h)
    ·exact .inl (uX id h)
   ·simp at ht
 ·intro id y ht;simp only[a9,reduceCtorEq,cP]at ht;split at ht
  ·rename_i e;simp only[Key.m.injEq]at e;exact .inr e.symm
  ·simp at ht
end
def BD(us:List Value):Act:={tmps:=us.toArray,defers:=[]}
structure CX(P:Program)(f:FuncId)(vs:List AV)(fm:List (Nat×aJ))(k:Nat)(r:AV)(fI:List (Nat×aJ))(k':Nat):Prop where
 call:ml P f=true
 le:k≤k'
 spec:∀(F:c8)(g:Gh)(W:World)(us:List Value),F.n=vs.length→us.length=vs.length→bJ F (·<k) (St.kn ⟨kZ 0 vs,fm,0,[]⟩) g W (BD us)→
  Calls P f us.toArray W (λe W'=>∃v g',e= .returned v∧bJ {F with n:=1} (·<k') (St.kn ⟨[(0,r)],fI,0,[]⟩) g' W' (BD [v]))
def zP(fI:List (Nat×aJ)):List (Nat×aJ)→List (Key×Option Info)
 |[]=>[]
 | (id,_)::r=>(.m id,(ao id fI).map .b)::zP fI r
def tS(k:Nat):List (Nat×aJ)→List (Key×Option Info)
 |[]=>[]
 | (id,b)::r=>if k≤id then(.m id,some (.b b))::tS k r else tS k r
def Qi{u v:List (Key×Option Info)}{k:Key}:a9 (u++v) k=match a9 u k with|some x=>some x|none=>a9 v k:=by
 induction u with
 |nil=>rfl
 |cons p u ih=>
  obtain⟨k',x⟩:=p
  simp only[mQ,a9]
  split
  ·rfl
  ·exact ih
def Qj(fI:List (Nat×aJ))(t:Nat):∀fm,a9 (zP fI fm) (.s t)=none
 |[]=>rfl
 | (id,b)::r=>by simp[zP,a9,Qj fI t r]
def G3(k:Nat)(t:Nat):∀fm,a9 (tS k fm) (.s t)=none
 |[]=>rfl
 | (id,b)::r=>by
  simp only[tS];split
  ·simp[a9,G3 k t r]
  ·exact G3 k t r
def XF(fI:List (Nat×aJ))(j:Nat):∀fm:List (Nat×aJ),a9 (zP fI fm) (.m j)=if(ao j fm).isSome then some ((ao j fI).map .b)else none
 |[]=>rfl
 | (id,b)::r=>by
  simp only[zP,a9,ao,Key.m.injEq];by_cases e:id=j
  ·simp[e]
  ·simp only[e,cP];exact XF fI j r
def G4(k j:Nat):∀fm:List (Nat×aJ),a9 (tS k fm) (.m j)=if k≤j then(ao j fm).map (λb=>some (.b b))else none
 |[]=>by simp[tS,a9,ao]
 | (id,b)::r=>by
  simp only[tS,ao];by_cases h:k≤id
  ·simp only[h,cM,a9,Key.m.injEq];by_cases e:id=j
   ·subst e;simp[h]
   ·simp only[e,cP];exact G4 k j r
  ·simp only[h,cP];by_cases e:id=j
   ·subst e;rw[G4 k id r];simp[h]
   ·simp only[e,cP];exact G4 k j r
def ji.D5{N N':Nat→Prop}{g g':Gh}{W:World}{id:Nat}{b:aJ}(h:ji N g W id b)(hN:∀k,cN (g.γ id)=some k→N' k)(hγ:g'.γ id=g.γ id)(hH:g'.H=g.H)(hl:iH (λj=>j∈b.aD) g g'):ji N' g' W id b:=by
 cases b with
 |box E sz cs=>
  obtain⟨b,vs,rest,e,hh,hr,hn,hz,hc⟩:=h
  exact⟨b,vs,rest,by rw[hγ];exact e,hh,bS.mono hl (λj hj=>hj) hr,hN b e,by rw[hH];exact hz,by rw[hγ];exact hc⟩
 |vec E T xs=>
  rcases h with⟨e,h0⟩|⟨b,cap,vs,e,hh,h1,h2,h3,h4,hn,hz⟩
  ·exact .inl ⟨by rw[hγ];exact e,h0⟩
  ·exact .inr ⟨b,cap,vs,by rw[hγ];exact e,hh,h1,h2,h3,by rw[hH];exact h4,hN b (by rw[e];rfl),by rw[hH];exact hz⟩
 |fQ f first caps=>
  obtain⟨us,ws,e,h1,h2⟩:=h
  exact⟨us,ws,by rw[hγ];exact e,dt.mono hl (λj hj=>fM _ hj) h1,dt.mono hl (λj hj=>jY _ hj) h2⟩
 |fz E cs=>
  obtain⟨b,vs,rest,e,hh,hr,hn,hz⟩:=h
  exact⟨b,vs,rest,by rw[hγ];exact e,hh,bS.mono hl (λj hj=>hj) hr,hN b e,by rw[hH];exact hz⟩
def ji.D6{known:Nat→Prop}{N:Nat→Prop}{g g':Gh}{W W':World}{id:Nat}{b:aJ}(h:ji N g W id b)(hl:iH known g g')(al:known id)(hm:∀j∈b.aD,known j)
  (hh:∀k,cN (g.γ id)=some k→W'.heap[k]? =W.heap[k]? ∧∀o,g'.H k o=g.H k o):ji N g' W' id b:=by
 have hγ:=hl.γ id al
 cases b with
 |box E sz cs=>
  obtain⟨b,vs,rest,e,h1,hr,hn,hz,hc⟩:=h
  exact⟨b,vs,rest,by rw[hγ];exact e,by rw[(hh b e).1];exact h1,bS.mono hl hm hr,hn,λo=>by rw[(hh b e).2];exact hz o,by rw[hγ];exact hc⟩
 |vec E T xs=>
  rcases h with⟨e,h0⟩|⟨b,cap,vs,e,h0,h1,h2,h3,h4,hn,hz⟩
  ·exact .inl ⟨by rw[hγ];exact e,h0⟩
  ·have hb:cN (g.γ id)=some b:=by rw[e];rfl
   exact .inr ⟨b,cap,vs,by rw[hγ];exact e,by rw[(hh b hb).1];exact h0,h1,h2,h3,λi hi=>dh.mono hl.H T _ _ (h4 i hi),hn,λo=>by rw[(hh b hb).2];exact hz o⟩
 |fQ f first caps=>
  obtain⟨us,ws,e,h1,h2⟩:=h
  exact⟨us,ws,by rw[hγ];exact e,dt.mono hl (λj hj=>hm j (fM _ hj)) h1,dt.mono hl (λj hj=>hm j (jY _ hj)) h2⟩
 |fz E cs=>
  obtain⟨b,vs,rest,e,h1,hr,hn,hz⟩:=h
  exact⟨b,vs,rest,by rw[hγ];exact e,by rw[(hh b e).1];exact h1,bS.mono hl hm hr,hn,λo=>by rw[(hh b e).2];exact hz o⟩
section
variable{P:Program}{tt:TT}
def ahS{f:FuncId}{vs:List AV}{fm fI:List (Nat×aJ)}{k k':Nat}{r:AV}(hf:CX P f vs fm k r fI k')(hmv:∀id∈fH vs,id<k)(rE:∀id b,ao id fm=some b→id<k∧∀j∈b.aD,j<k)(dM:∀id∈r.aD,k≤id∨∃b,ao id fm=some b)
  (u7:∀id b,ao id fI=some b→ao id fm=some b∨∀j∈b.aD,k≤j∨∃b,ao j fm=some b)
  {Fc:c8} {known:Nat→Prop} {σ:Kn} {g:Gh} {W:World} {a:Act} (aH:bJ Fc known σ g W a) (dT:∀id,(k≤id∧id<k')→¬known id) {us:List Value} (ja:jo g vs us) (hkv:∀id∈fH vs,known id)
  (bt:∀id b,ao id fm=some b→σ (.m id)=some (.b b)) {d:Nat} (hd:d<a.tmps.size):
  Calls P f us.toArray W (λe W'=>∃v g',e= .returned v∧bJ Fc (λid=>known id∨(k≤id∧id<k')) (dC σ ((.s d,some (.v r))::(zP fI fm++tS k fI))) g' W' (a.put (some d) v)):=by
 have iN:=zK ja
 let F:c8:={w0:=W,H0:=g.H,n:=vs.length,own:=λb=>∃id bb,ao id fm=some bb∧cN (g.γ id)=some b,k0:=k,γ0:=g.γ}
 have hN:∀b,F.N b→b<W.heap.size→Fc.N b:=by
  intro b hb bh;rcases hb with hb|⟨id,bb,h1,h2⟩
  ·exact absurd hb (by show¬W.heap.size≤b;omega)
  ·exact((aH.c9 id bb (bt id bb h1)).block h2).1
 have hN':∀b,F.N b→Fc.N b:=by
  intro b hb;rcases hb with hb|⟨id,bb,h1,h2⟩
  ·exact .inl (dG aH.below.size hb)
  ·exact((aH.c9 id bb (bt id bb h1)).block h2).1
 have h0:bJ F (·<k) (St.kn ⟨kZ 0 vs,fm,0,[]⟩) g W (BD us):=by
  refine⟨by simp[BD,F,iN],ae,?_,?_,?_,?_,?_,aH.sub,⟨ae,ae,ae,bF _,λ_ _ _=>rfl⟩,cC.refl _,λ_ _ _ _=>rfl,λid al=>⟨al,ae⟩⟩
  ·intro t v ht;simp only[St.kn,cq]at ht;obtain⟨x,hx,he⟩:=ht;cases he;obtain⟨_,u,hu,hr,_⟩:=pj vs us 0 ja t v hx;have jh:us[t]? =some u:=C1;simp only[BD,v5,JR,jh,De];exact hr
  ·intro id b hb;simp only[St.kn,cq]at hb;obtain⟨x,hx,he⟩:=hb;cases he;exact(aH.c9 id b (bt id b hx)).D5 (λkk oE=> .inr ⟨id,b,hx,oE⟩) ae ae ⟨cC.refl _,λ_ _=>rfl⟩
  ·intro id b6 b b' kk hb dm h1 h2;simp only[St.kn,cq]at hb dm;obtain⟨x,hx,he⟩:=hb;obtain⟨x',nz,PL⟩:=dm;cases he;cases PL;exact aH.inj id b6 b b' kk (bt id b hx) (bt b6 b' nz) h1 h2
  ·intro key x hx id al;cases key with
   |s t=>
    simp only[St.kn,cq]at hx
    obtain⟨y,hy,he⟩:=hx
    subst he
    obtain⟨_,_,_,_,h6⟩:=pj vs us 0 ja t y hy
    exact hmv id (h6 id al)
   |m j=>
    simp only[St.kn,cq]at hx
    obtain⟨y,hy,he⟩:=hx
    subst he
    exact(rE j y hy).2 id al
  ·intro id x hx;simp only[St.kn,cq]at hx;obtain⟨y,hy,he⟩:=hx;exact(rE id y hy).1
 refine(hf.spec F g W us ae iN h0).mono ?_
 rintro e W' ⟨v,g',rfl,h1⟩
 refine⟨v,⟨g'.H,λid=>if k≤id∧id<k' then g'.γ id else g.γ id⟩,ae,?_⟩
 generalize zQ:(⟨g'.H,λid=>if k≤id∧id<k' then g'.γ id else g.γ id⟩:Gh)=g2
 have BE:g2.H=g'.H:=by rw[←zQ]
 have XG:∀id,g2.γ id=if k≤id∧id<k' then g'.γ id else g.γ id:=by rw[←zQ];intro id;rfl
 have u9:∀id,id<k'→g2.γ id=g'.γ id:=by
  intro id al;rw[XG];split
  ·rfl
  ·rename_i hn;exact(h1.iu id (by show id<k;omega)).2.symm
 have Qk:iH (·<k') g' g2:=⟨by rw[BE];exact cC.refl _,λid al=>u9 id al⟩
 have BF:iH known g g2:=⟨by rw[BE];exact h1.le,λid al=>by rw[XG,aq];intro hc;exact dT id hc al⟩
 have XH:∀id b,ao id fm=some b→known id:=λid b hb=>aH.fy _ _ (bt id b hb)
 have GW:∀id,(k≤id∨∃b,ao id fm=some b)→id<k'→known id∨(k≤id∧id<k'):=by
  intro id h h2;rcases h with h|⟨b,hb⟩
  ·exact .inr ⟨h,h2⟩
  ·exact .inl (XH id b hb)
 have XI:∀id∈r.aD,id<k':=λid al=>h1.aD (.s 0) (.v r) (by simp[St.kn,ao]) id al
 have Ql:∀kk,kk<W.heap.size→¬F.own kk→W'.heap[kk]? =W.heap[kk]? ∧∀o,g'.H kk o=g.H kk o:=λkk hk ef=>⟨h1.below.block kk hk ef,λo=>h1.fresh kk o hk ef⟩
 have Dy:∀j,a9 ((.s d,some (.v r))::(zP fI fm++tS k fI)) (.m j)=if(ao j fm).isSome then some ((ao j fI).map .b)else if k≤j then(ao j fI).map (λb=>some (.b b))else none:=by
  intro j;simp only[a9,reduceCtorEq,cP,Qi,XF,G4];by_cases h:(ao j fm).isSome=true
  ·simp[h]
  ·simp[h]
 have oZ:∀j b,dC σ ((.s d,some (.v r))::(zP fI fm++tS k fI)) (.m j)=some (.b b)→(ao j fI=some b∧j<k')∨(ao j fm=none∧σ (.m j)=some (.b b)∧known j):=by
  intro j b hb;simp only[dC,Dy]at hb;by_cases h:(ao j fm).isSome=true
  ·simp only[h,cM,cq]at hb;obtain⟨x,hx,he⟩:=hb;cases he;exact .inl ⟨hx,h1.fy j (.b b) (by simp[St.kn,hx])⟩
  ·have ef:ao j fm=none:=by simpa using h
   simp only[h,cP,mN]at hb;by_cases hk:k≤j
   ·simp only[hk,cM]at hb;cases hx:ao j fI with
    |none=>
     rw[hx]at hb
     simp only[Option.map_none]at hb
     exact .inr ⟨ef,hb,aH.fy _ _ hb⟩
    |some x=>
     rw[hx]at hb
     simp only[OW,aO,Info.b.injEq]at hb
     subst hb
     exact .inl ⟨ae,h1.fy j (.b x) (by simp[St.kn,hx])⟩
   ·simp only[hk,cP]at hb;exact .inr ⟨ef,hb,aH.fy _ _ hb⟩
 have Qm:∀j b kk,ao j fm=none→σ (.m j)=some (.b b)→cN (g.γ j)=some kk→kk<W.heap.size∧¬F.own kk:=by intro j b kk h2 h3 h4;refine⟨((aH.c9 j b h3).block h4).2,?_⟩;rintro⟨id,bb,h5,h6⟩;have:=aH.inj j id b bb kk h3 (bt id bb h5) h4 h6;subst this;rw[h2]at h5;cases h5
 refine⟨by simp[Act.put,aH.size],aH.defers,?_,?_,?_,?_,?_,by rw[BE];exact h1.sub,?_,by rw[BE];exact aH.le.trans h1.le,?_,?_⟩
 ·intro t u ht;simp only[dC,a9,Qi,Qj,G3]at ht;by_cases e:d=t
  ·subst e;simp only[cM,aO,Info.v.injEq]at ht;subst ht;have hr:=h1.gw 0 r (by simp[St.kn,ao]);have hv:(a.put (some d) v).tmps.getD d undef=v:=by simp[Act.put,hd]
   rw[hv];exact bP.mono Qk XI (by simpa[BD]using hr)
  ·have e':¬(Key.s d=Key.s t):=λh=>e cd
   simp only[e',cP]at ht;have hv:(a.put (some d) v).tmps.getD t undef=a.tmps.getD t undef:=by simp[Act.put,nN e]
   rw[hv];exact bP.mono BF (λid al=>aH.aD _ _ ht id al) (aH.gw t u ht)
 ·intro j b hb;rcases oZ j b hb with⟨h2,h3⟩|⟨h2,h3,h4⟩
  ·have jK:=h1.c9 j b JG;exact jK.D5 (λkk oE=>hN' kk (jK.block oE).1) (u9 j h3) BE ⟨Qk.H,λi hi=>Qk.γ i (h1.aD (.m j) (.b b) JG i hi)⟩
  ·refine(aH.c9 j b h3).D6 BF h4 (λi hi=>aH.aD _ _ h3 i hi) (λkk oE=>?_);obtain⟨h5,h6⟩:=Qm j b kk h2 h3 oE;rw[BE];exact Ql kk h5 h6
 ·intro j j' b b' kk hb dm fX dL;rcases oZ j b hb with⟨h2,h3⟩|⟨h2,h3,h4⟩<;>rcases oZ j' b' dm with⟨pY,wu⟩|⟨pY,wu,rj⟩
  ·rw[u9 j h3]at fX;rw[u9 j' wu]at dL;exact h1.inj j j' b b' kk JG (by simp[St.kn,pY]) fX dL
  ·exfalso;rw[u9 j h3]at fX;rw[BF.γ j' rj]at dL;obtain⟨h5,h6⟩:=Qm j' b' kk pY wu dL;rcases((h1.c9 j b JG).block fX).1 with h7|h7
   ·exact absurd h7 (by show¬W.heap.size≤kk;omega)
   ·exact h6 h7
  ·exfalso;rw[u9 j' wu]at dL;rw[BF.γ j h4]at fX;obtain⟨h5,h6⟩:=Qm j b kk h2 h3 fX;rcases((h1.c9 j' b' (by simp[St.kn,pY])).block dL).1 with h7|h7
   ·exact absurd h7 (by show¬W.heap.size≤kk;omega)
   ·exact h6 h7
  ·rw[BF.γ j h4]at fX;rw[BF.γ j' rj]at dL;exact aH.inj j j' b b' kk h3 wu fX dL
 ·intro key x hx id al;cases key with
  |s t=>
   simp only[dC,a9,Qi,Qj,G3]at hx
   by_cases e:d=t
   ·subst e;simp only[cM,aO]at hx;subst hx;exact GW id (dM id al) (XI id al)
   ·have e':¬(Key.s d=Key.s t):=λh=>e cd
    simp only[e',cP]at hx;exact .inl (aH.aD _ _ hx id al)
  |m j=>
   cases x with
   |v u=>
    simp only[dC,Dy]at hx
    by_cases h:(ao j fm).isSome=true
    ·simp only[h,cM,cq]at hx;obtain⟨_,_,he⟩:=hx;cases he
    ·simp only[h,cP,mN]at hx;by_cases hk:k≤j
     ·simp only[hk,cM]at hx;cases hy:ao j fI with
      |none=>rw[hy]at hx;exact .inl (aH.aD (.m j) (.v u) (by simpa using hx) id al)
      |some y=>rw[hy]at hx;simp at hx
     ·simp only[hk,cP]at hx;exact .inl (aH.aD _ _ hx id al)
   |b b=>
    rcases oZ j b hx with⟨h2,h3⟩|⟨h2,h3,h4⟩
    ·rcases u7 j b h2 with h7|h7
     ·exact .inl (aH.aD _ _ (bt j b h7) id al)
     ·exact GW id (h7 id al) (h1.aD (.m j) (.b b) JG id al)
    ·exact .inl (aH.aD _ _ h3 id al)
 ·intro j x hx;simp only[dC,Dy]at hx;by_cases h:(ao j fm).isSome=true
  ·obtain⟨b,hb⟩:=Option.isSome_iff_exists.1 h;exact .inl (XH j b hb)
  ·simp only[h,cP,mN]at hx;by_cases hk:k≤j
   ·simp only[hk,cM]at hx;cases hy:ao j fI with
    |none=>rw[hy]at hx;exact .inl (aH.fy _ _ (by simpa using hx))
    |some y=>exact .inr ⟨hk,h1.fy j (.b y) (by simp[St.kn,hy])⟩
   ·simp only[hk,cP]at hx;exact .inl (aH.fy _ _ hx)
 ·refine⟨h1.below.os.trans aH.below.os,h1.below.tape.trans aH.below.tape,h1.below.output.trans aH.below.output,dG aH.below.size h1.below.size,λkk hk ef=>?_⟩;have bh:kk<W.heap.size:=kl hk aH.below.size;rw[←aH.below.block kk hk ef];refine(Ql kk bh (λho=>?_)).1;rcases hN kk (.inr ho) bh with h2|h2
  ·omega
  ·exact ef h2
 ·intro kk o hk ef;have bh:kk<W.heap.size:=kl hk aH.below.size;rw[BE,(Ql kk bh (λho=>?_)).2 o]
  ·exact aH.fresh kk o hk ef
  ·rcases hN kk (.inr ho) bh with h2|h2
   ·omega
   ·exact ef h2
 ·intro id al;obtain⟨h2,h3⟩:=aH.iu id al;exact⟨.inl h2,by rw[BF.γ id h2];exact h3⟩
end
def G5:Bool×List C→Option AV
 | (true,cs)=>some (.a cs)
 | (false,[c])=>some (.c c)
 |_=>none
def wJ:List (Bool×List C)→Option (List AV)
 |[]=>some []
 |s::r=>(match G5 s,wJ r with
  |some v,some vs=>some (v::vs)
  |_,_=>none)
def KU{g:Gh}:∀{ss:List (Bool×List C)}{vs:List AV}{us:List Value},wJ ss=some vs→dt g ss us→jo g vs us
 |[],vs,us,h,hr=>by simp only[wJ,aO]at h;subst h;exact hr
 |s::r,vs,us,h,hr=>by
  simp only[wJ]at h;split at h
  ·rename_i v DX h1 h2;simp only[aO]at h;subst h;obtain⟨u,Qn,rfl,h3,h4⟩:=hr;refine⟨u,Qn,ae,?_,KU h2 h4⟩;match s,h1,h3 with
   | (true,cs),h1,h3=>simp only[G5,aO]at h1;subst h1;exact h3
   | (false,[c]),h1,h3=>simp only[G5,aO]at h1;subst h1;exact h3
  ·simp at h
def XJ:∀{ss:List (Bool×List C)}{vs:List AV},wJ ss=some vs→∀id∈fH vs,id∈fE ss
 |[],vs,h,id,al=>by simp only[wJ,aO]at h;subst h;cases al
 |s::r,vs,h,id,al=>by
  simp only[wJ]at h;split at h
  ·rename_i v DX h1 h2;simp only[aO]at h;subst h;simp only[fH,bX]at al;simp only[fE,bX];rcases al with al|al
   ·left;match s,h1 with
    | (true,cs),h1=>simp only[G5,aO]at h1;subst h1;exact al
    | (false,[c]),h1=>simp only[G5,aO]at h1;subst h1;simpa[cA,AV.aD]using al
   ·exact .inr (XJ h2 id al)
  ·simp at h
def jo.append{g:Gh}:∀{xs ys:List AV}{us ws:List Value},jo g xs us→jo g ys ws→jo g (xs++ys) (us++ws)
 |[],_,_,_,h,h2=>by simp only[jo]at h;subst h;exact h2
 |x::xs,_,_,_,h,h2=>by obtain⟨u,r,rfl,h1,h3⟩:=h;exact⟨u,r++_,ae,h1,jo.append h3 h2⟩
def XK(xs ys:List AV):fH (xs++ys)=fH xs++fH ys:=by
 induction xs with
 |nil=>rfl
 |cons x xs ih=>simp[fH,ih]
section
variable{P:Program}{tt:TT}
def Qo{f:FuncId}{us caps:Array Value}{W:World}(cw:ml P f=true):(invoke (.fn (.func f) caps) us).run P W= .ok (.enter f (us++caps)) W:=by
 unfold ml at cw;cases iv:P.funcs[f]? with
 |none=>rw[iv]at cw;simp at cw
 |some fn=>
  rw[iv]at cw
  simp only[eQ,bne_iff_ne,ne_eq]at cw
  have h2:fn.body≠none:=by intro hb;rw[hb]at cw;simp at cw
  simp[invoke,callFunc,iv,cw.1,h2]
end
def D7(tt:TT)(t1 t2:Nat):Option (Nat×TI):=match ao t1 tt,ao t2 tt with
 |some a,some b=>(match a.kind,b.kind with
  | .sl E,.sl _=>(match ao E tt with
   |some ei=>if 0<ei.size then some (E,ei)else none
   |none=>none)
  |_,_=>none)
 |_,_=>none
section
variable{P:Program}{tt:TT}
def XL(aT:cL P tt=true){t1 t2 E:Nat}{ei:TI}(h:D7 tt t1 t2=some (E,ei)):ahM P t1 t2 E ei.size ei.bytes:=by
 unfold D7 at h;split at h
 ·rename_i a b ha hb;split at h
  ·rename_i E' e2 hka Qp;split at h
   ·rename_i pn jJ;split at h
    ·rename_i oD;simp only[aO,cD]at h;obtain⟨rfl,rfl⟩:=h;have h1:=(gL aT ha).kind;rw[hka]at h1;have h2:=(gL aT hb).kind;rw[Qp]at h2;obtain⟨inf,lI,sO,xV,z,xW,p8⟩:=(gL aT jJ).info;have k6:=(gL aT jJ).Pl;refine⟨h1,⟨_,h2⟩,⟨inf,z,lI,sO,xV,xW,?_⟩,oD⟩;have:z.cells.toList.length=(pn.zero.map ZV.fV).length:=by rw[p8]
     simp only[V3,dJ]at this;omega
    ·simp at h
   ·simp at h
  ·simp at h
 ·simp at h
end
def XM(o:Oper):Bool:=match o.op with
 | .defer _=>false
 |_=>true
def rF:Code→Bool
 | .region _ ops _=>ops.toList.all XM
 | .seq x y=>rF x&&rF y
 | .cond _ x y=>rF x&&rF y
 | .block _ x=>rF x
 | .loop x=>rF x
 | .skip=>true
 | .exit _=>true
 | .ret=>true
 |_=>false
def qn(r:Option Nat)(c:Code):Prop:=r=none∨rF c=true
def qn.seq{r:Option Nat}{x y:Code}(h:qn r (.seq x y)):qn r x∧qn r y:=by
 rcases h with h|h
 ·exact⟨.inl h,.inl h⟩
 ·simp only[rF,eQ]at h;exact⟨.inr h.1,.inr h.2⟩
def qn.cond{r:Option Nat}{c:Operand}{x y:Code}(h:qn r (.cond c x y)):qn r x∧qn r y:=by
 rcases h with h|h
 ·exact⟨.inl h,.inl h⟩
 ·simp only[rF,eQ]at h;exact⟨.inr h.1,.inr h.2⟩
def qn.loop{r:Option Nat}{x:Code}(h:qn r (.loop x)):qn r x:=h
def qn.region{r:Option Nat}{id:Nat}{ops:Array Oper}{d:Bool}(h:qn r (.region id ops d)):zv r ops:=by
 intro i o ho;rcases h with h|h
 ·exact .inl h
 ·refine .inr (λc hc=>?_);simp only[rF,wg]at h;have:=h o (by rw[←F2]at ho;exact List.mem_of_getElem? ho);simp[XM,hc]at this
end Go.El
namespace Go.El
open Go Go.Proofs
def eB:TT:=[
 (1,⟨.other,1,8,[],[.f]⟩),
 (2,⟨.int .i64,1,8,[],[.i .i64]⟩),
 (3,⟨.int .i64,1,8,[],[.i .i64]⟩),
 (4,⟨.bool,1,1,[],[.b]⟩),
 (5,⟨.int .u8,1,1,[],[.i .u8]⟩),
 (6,⟨.int .u8,1,1,[],[.i .u8]⟩),
 (7,⟨.st,4,24,[(0,1,false),(1,1,false),(2,1,false),(3,1,false)],[.i .i64,.i .i64,.b,.i .u8]⟩),
 (8,⟨.st,4,24,[(0,1,false),(1,1,false),(2,1,false),(3,1,false)],[.i .i64,.i .i64,.b,.i .u8]⟩),
 (9,⟨.str,1,16,[],[.t]⟩),
 (10,⟨.str,1,16,[],[.t]⟩),
 (11,⟨.str,1,16,[],[.t]⟩),
 (12,⟨.int .u64,1,8,[],[.i .u64]⟩),
 (13,⟨.st,2,24,[(0,1,false),(1,1,false)],[.t,.i .u64]⟩),
 (14,⟨.st,2,24,[(0,1,false),(1,1,false)],[.t,.i .u64]⟩),
 (15,⟨.other,1,8,[],[.p]⟩),
 (16,⟨.other,1,8,[],[.p]⟩),
 (17,⟨.other,1,8,[],[.p]⟩),
 (18,⟨.st,1,8,[(0,1,false)],[.p]⟩),
 (19,⟨.st,1,8,[(0,1,false)],[.p]⟩),
 (21,⟨.int .i32,1,4,[],[.i .i32]⟩),
 (22,⟨.sl 25,1,24,[],[.s]⟩),
 (23,⟨.int .u32,1,4,[],[.i .u32]⟩),
 (24,⟨.other,1,8,[],[.f]⟩),
 (25,⟨.int .u64,1,8,[],[.i .u64]⟩),
 (26,⟨.other,1,8,[],[.f]⟩),
 (27,⟨.other,1,8,[],[.f]⟩),
 (28,⟨.sl 33,1,24,[],[.s]⟩),
 (29,⟨.int .i64,1,8,[],[.i .i64]⟩),
 (31,⟨.other,1,8,[],[.f]⟩),
 (32,⟨.st,2,32,[(0,1,false),(1,1,false)],[.s,.i .i64]⟩),
 (33,⟨.st,2,32,[(0,1,false),(1,1,false)],[.s,.i .i64]⟩),
 (34,⟨.other,1,8,[],[.f]⟩),
 (35,⟨.other,1,8,[],[.f]⟩),
 (36,⟨.other,1,8,[],[.f]⟩),
 (37,⟨.other,1,8,[],[.f]⟩),
 (38,⟨.sl 86,1,24,[],[.s]⟩),
 (39,⟨.sl 46,1,24,[],[.s]⟩),
 (40,⟨.sl 46,1,24,[],[.s]⟩),
 (41,⟨.other,1,8,[],[.f]⟩),
 (42,⟨.sl 23,1,24,[],[.s]⟩),
 (43,⟨.st,2,32,[(0,1,false),(1,1,false)],[.b,.s]⟩),
 (44,⟨.st,2,32,[(0,1,false),(1,1,false)],[.b,.s]⟩),
 (45,⟨.st,4,64,[(0,2,true),(2,2,true)],[.b,.s,.b,.s]⟩),
 (46,⟨.st,4,64,[(0,2,true),(2,2,true)],[.b,.s,.b,.s]⟩),
 (47,⟨.sl 80,1,24,[],[.s]⟩),
 (48,⟨.st,6,96,[(0,4,true),(4,1,false),(5,1,false)],[.b,.s,.b,.s,.s,.i .i64]⟩),
 (49,⟨.st,6,96,[(0,4,true),(4,1,false),(5,1,false)],[.b,.s,.b,.s,.s,.i .i64]⟩),
 (50,⟨.other,1,8,[],[.f]⟩),
 (52,⟨.other,1,8,[],[.f]⟩),
 (53,⟨.other,1,8,[],[.f]⟩),
 (54,⟨.other,1,8,[],[.f]⟩),
 (55,⟨.other,1,8,[],[.f]⟩),
 (56,⟨.other,1,8,[],[.f]⟩),
 (57,⟨.sl 44,1,24,[],[.s]⟩),
 (58,⟨.other,1,8,[],[.f]⟩),
 (59,⟨.other,1,8,[],[.f]⟩),
 (60,⟨.sl 22,1,24,[],[.s]⟩),
 (61,⟨.sl 57,1,24,[],[.s]⟩),
 (63,⟨.other,1,8,[],[.f]⟩),
 (64,⟨.other,1,8,[],[.f]⟩),
 (65,⟨.other,1,8,[],[.f]⟩),
 (66,⟨.other,1,8,[],[.f]⟩),
 (67,⟨.other,1,8,[],[.f]⟩),
 (68,⟨.st,3,56,[(0,1,false),(1,1,false),(2,1,false)],[.s,.s,.i .u64]⟩),
 (69,⟨.st,3,56,[(0,1,false),(1,1,false),(2,1,false)],[.s,.s,.i .u64]⟩),
 (70,⟨.other,1,8,[],[.f]⟩),
 (71,⟨.other,1,8,[],[.f]⟩),
 (72,⟨.other,1,8,[],[.f]⟩),
 (73,⟨.other,1,8,[],[.f]⟩),
 (74,⟨.other,1,8,[],[.f]⟩),
 (75,⟨.other,1,8,[],[.f]⟩),
 (76,⟨.other,1,8,[],[.f]⟩),
 (77,⟨.other,1,8,[],[.f]⟩),
 (78,⟨.other,1,8,[],[.f]⟩),
 (79,⟨.st,2,32,[(0,1,false),(1,1,false)],[.s,.i .i64]⟩),
 (80,⟨.st,2,32,[(0,1,false),(1,1,false)],[.s,.i .i64]⟩),
 (81,⟨.other,1,8,[],[.f]⟩),
 (82,⟨.other,1,8,[],[.f]⟩),
 (83,⟨.other,1,8,[],[.f]⟩),
 (84,⟨.other,1,8,[],[.f]⟩),
 (85,⟨.other,1,8,[],[.f]⟩),
 (86,⟨.int .i8,1,1,[],[.i .i8]⟩),
 (88,⟨.other,1,8,[],[.f]⟩),
 (89,⟨.other,1,8,[],[.f]⟩),
 (90,⟨.other,1,8,[],[.f]⟩),
 (91,⟨.other,1,8,[],[.f]⟩),
 (92,⟨.other,1,8,[],[.f]⟩),
 (93,⟨.other,1,8,[],[.f]⟩),
 (94,⟨.other,1,8,[],[.f]⟩),
 (95,⟨.other,1,8,[],[.f]⟩),
 (96,⟨.other,1,8,[],[.f]⟩),
 (98,⟨.other,1,8,[],[.f]⟩),
 (99,⟨.other,1,8,[],[.f]⟩),
 (100,⟨.st,2,32,[(0,1,false),(1,1,false)],[.s,.i .u64]⟩),
 (101,⟨.st,2,32,[(0,1,false),(1,1,false)],[.s,.i .u64]⟩),
 (102,⟨.other,1,8,[],[.f]⟩),
 (103,⟨.other,1,8,[],[.f]⟩),
 (104,⟨.other,1,8,[],[.f]⟩),
 (105,⟨.other,1,8,[],[.f]⟩),
 (106,⟨.other,1,8,[],[.f]⟩),
 (107,⟨.other,1,8,[],[.f]⟩),
 (108,⟨.other,1,8,[],[.f]⟩),
 (109,⟨.other,1,8,[],[.f]⟩),
 (110,⟨.other,1,8,[],[.f]⟩),
 (111,⟨.sl 40,1,24,[],[.s]⟩),
 (112,⟨.other,1,8,[],[.f]⟩),
 (113,⟨.other,1,8,[],[.f]⟩),
 (114,⟨.other,1,8,[],[.f]⟩),
 (116,⟨.other,1,8,[],[.f]⟩),
 (117,⟨.other,1,8,[],[.f]⟩),
 (118,⟨.other,1,8,[],[.f]⟩),
 (119,⟨.st,2,48,[(0,1,false),(1,1,false)],[.s,.s]⟩),
 (120,⟨.st,2,48,[(0,1,false),(1,1,false)],[.s,.s]⟩),
 (121,⟨.other,1,8,[],[.f]⟩),
 (122,⟨.other,1,8,[],[.f]⟩),
 (123,⟨.other,1,8,[],[.f]⟩),
 (124,⟨.other,1,8,[],[.f]⟩),
 (125,⟨.sl 101,1,24,[],[.s]⟩),
 (126,⟨.other,1,8,[],[.f]⟩),
 (127,⟨.other,1,8,[],[.f]⟩),
 (128,⟨.other,1,8,[],[.f]⟩),
 (129,⟨.other,1,8,[],[.f]⟩),
 (130,⟨.other,1,8,[],[.f]⟩),
 (131,⟨.other,1,8,[],[.f]⟩),
 (132,⟨.other,1,8,[],[.f]⟩),
 (134,⟨.other,1,8,[],[.f]⟩),
 (135,⟨.other,1,8,[],[.f]⟩),
 (136,⟨.other,1,8,[],[.f]⟩),
 (137,⟨.other,1,8,[],[.f]⟩),
 (138,⟨.other,1,8,[],[.f]⟩),
 (139,⟨.other,1,8,[],[.f]⟩),
 (140,⟨.other,1,8,[],[.f]⟩),
 (141,⟨.other,1,8,[],[.f]⟩),
 (142,⟨.other,1,8,[],[.f]⟩),
 (143,⟨.other,1,8,[],[.f]⟩),
 (144,⟨.other,1,8,[],[.f]⟩),
 (145,⟨.other,1,8,[],[.f]⟩),
 (146,⟨.arr 4 25,4,32,[],[.i .u64,.i .u64,.i .u64,.i .u64]⟩),
 (147,⟨.other,1,8,[],[.f]⟩),
 (148,⟨.other,1,8,[],[.f]⟩),
 (149,⟨.other,1,8,[],[.f]⟩),
 (151,⟨.other,1,8,[],[.f]⟩),
 (152,⟨.other,1,8,[],[.f]⟩),
 (153,⟨.other,1,8,[],[.f]⟩),
 (154,⟨.other,1,8,[],[.f]⟩),
 (155,⟨.int .u64,1,8,[],[.i .u64]⟩),
 (156,⟨.other,1,8,[],[.f]⟩),
 (157,⟨.other,1,8,[],[.f]⟩),
 (158,⟨.other,1,8,[],[.f]⟩),
 (159,⟨.other,1,8,[],[.f]⟩),
 (160,⟨.other,1,8,[],[.f]⟩),
 (161,⟨.other,1,8,[],[.f]⟩),
 (162,⟨.other,1,8,[],[.f]⟩),
 (163,⟨.other,1,8,[],[.f]⟩),
 (164,⟨.other,1,8,[],[.f]⟩),
 (166,⟨.other,1,8,[],[.f]⟩),
 (167,⟨.other,1,8,[],[.f]⟩),
 (168,⟨.other,1,8,[],[.f]⟩),
 (170,⟨.other,1,8,[],[.f]⟩),
 (171,⟨.other,1,8,[],[.f]⟩),
 (172,⟨.other,1,8,[],[.f]⟩),
 (173,⟨.other,1,8,[],[.f]⟩),
 (174,⟨.st,2,48,[(0,1,false),(1,1,false)],[.s,.s]⟩),
 (175,⟨.st,2,48,[(0,1,false),(1,1,false)],[.s,.s]⟩),
 (176,⟨.other,1,8,[],[.f]⟩),
 (177,⟨.other,1,8,[],[.f]⟩),
 (178,⟨.other,1,8,[],[.f]⟩),
 (179,⟨.other,1,8,[],[.f]⟩),
 (180,⟨.other,1,8,[],[.f]⟩),
 (181,⟨.other,1,8,[],[.f]⟩),
 (182,⟨.other,1,8,[],[.f]⟩),
 (183,⟨.other,1,8,[],[.f]⟩),
 (184,⟨.other,1,8,[],[.f]⟩),
 (185,⟨.other,1,8,[],[.f]⟩),
 (186,⟨.other,1,8,[],[.f]⟩),
 (187,⟨.int .i64,1,8,[],[.i .i64]⟩),
 (189,⟨.other,1,8,[],[.f]⟩),
 (190,⟨.other,1,8,[],[.f]⟩),
 (191,⟨.other,1,8,[],[.f]⟩),
 (193,⟨.other,1,8,[],[.f]⟩),
 (194,⟨.other,1,8,[],[.f]⟩),
 (195,⟨.other,1,8,[],[.f]⟩),
 (196,⟨.other,1,8,[],[.f]⟩),
 (197,⟨.other,1,8,[],[.f]⟩),
 (198,⟨.other,1,8,[],[.f]⟩),
 (199,⟨.other,1,8,[],[.f]⟩),
 (201,⟨.other,1,8,[],[.f]⟩),
 (202,⟨.other,1,8,[],[.f]⟩),
 (203,⟨.other,1,8,[],[.f]⟩),
 (204,⟨.other,1,8,[],[.f]⟩),
 (205,⟨.other,1,8,[],[.f]⟩),
 (206,⟨.other,1,8,[],[.f]⟩),
 (207,⟨.other,1,8,[],[.f]⟩),
 (208,⟨.other,1,8,[],[.f]⟩),
 (209,⟨.other,1,8,[],[.f]⟩),
 (210,⟨.other,1,8,[],[.f]⟩),
 (212,⟨.other,1,8,[],[.f]⟩),
 (213,⟨.other,1,8,[],[.f]⟩),
 (214,⟨.other,1,8,[],[.f]⟩),
 (215,⟨.other,1,8,[],[.f]⟩),
 (216,⟨.other,1,8,[],[.f]⟩),
 (217,⟨.other,1,8,[],[.f]⟩),
 (218,⟨.other,1,8,[],[.f]⟩),
 (219,⟨.sl 3,1,24,[],[.s]⟩),
 (220,⟨.other,1,8,[],[.f]⟩),
 (221,⟨.other,1,8,[],[.f]⟩),
 (222,⟨.int .u64,1,8,[],[.i .u64]⟩),
 (223,⟨.other,1,8,[],[.f]⟩),
 (224,⟨.other,1,8,[],[.f]⟩),
 (225,⟨.other,1,8,[],[.f]⟩),
 (226,⟨.other,1,8,[],[.p]⟩),
 (227,⟨.other,1,8,[],[.f]⟩),
 (228,⟨.other,1,8,[],[.f]⟩),
 (229,⟨.other,1,8,[],[.f]⟩),
 (230,⟨.other,1,8,[],[.f]⟩),
 (231,⟨.other,1,8,[],[.f]⟩),
 (232,⟨.other,1,8,[],[.f]⟩),
 (233,⟨.other,1,8,[],[.f]⟩),
 (234,⟨.other,1,8,[],[.f]⟩),
 (235,⟨.other,1,8,[],[.f]⟩),
 (236,⟨.other,1,8,[],[.f]⟩),
 (237,⟨.other,1,8,[],[.f]⟩),
 (238,⟨.other,1,8,[],[.f]⟩),
 (239,⟨.other,1,8,[],[.f]⟩),
 (240,⟨.other,1,8,[],[.f]⟩),
 (241,⟨.other,1,8,[],[.f]⟩),
 (242,⟨.other,1,8,[],[.p]⟩),
 (244,⟨.other,1,8,[],[.f]⟩),
 (245,⟨.other,1,8,[],[.f]⟩),
 (246,⟨.other,1,8,[],[.f]⟩),
 (247,⟨.other,1,8,[],[.f]⟩),
 (248,⟨.other,1,8,[],[.f]⟩),
 (250,⟨.other,1,8,[],[.f]⟩),
 (251,⟨.other,1,8,[],[.f]⟩),
 (252,⟨.other,1,8,[],[.f]⟩),
 (253,⟨.other,1,8,[],[.f]⟩),
 (254,⟨.other,1,8,[],[.f]⟩),
 (255,⟨.other,1,8,[],[.f]⟩),
 (256,⟨.other,1,8,[],[.f]⟩),
 (257,⟨.st,4,40,[(0,1,false),(1,1,false),(2,1,false),(3,1,false)],[.p,.p,.p,.t]⟩),
 (258,⟨.st,4,40,[(0,1,false),(1,1,false),(2,1,false),(3,1,false)],[.p,.p,.p,.t]⟩),
 (259,⟨.arr 0 16,0,0,[],[]⟩),
 (262,⟨.int .u8,1,1,[],[.i .u8]⟩),
 (263,⟨.int .u8,1,1,[],[.i .u8]⟩),
 (264,⟨.other,1,8,[],[.f]⟩),
 (265,⟨.other,1,8,[],[.p]⟩),
 (266,⟨.int .i32,1,4,[],[.i .i32]⟩),
 (267,⟨.int .i32,1,4,[],[.i .i32]⟩),
 (268,⟨.st,11,48,[(0,1,false),(1,1,false),(2,1,false),(3,1,false),(4,1,false),(5,1,false),(6,1,false),(7,1,false),(8,1,false),(9,1,false),(10,1,false)],[.i .u64,.i .u64,.i .u32,.i .u8,.i .u8,.i .u8,.i .u8,.f,.p,.i .i32,.i .i32]⟩),
 (269,⟨.st,11,48,[(0,1,false),(1,1,false),(2,1,false),(3,1,false),(4,1,false),(5,1,false),(6,1,false),(7,1,false),(8,1,false),(9,1,false),(10,1,false)],[.i .u64,.i .u64,.i .u32,.i .u8,.i .u8,.i .u8,.i .u8,.f,.p,.i .i32,.i .i32]⟩)]
def ar:cL Tryz.prog eB=true:=gI
def MX:Tryz.prog.follows .mixedOrders=true:=gI
abbrev aE:ET:= .int .u32
abbrev aM:ET:= .int .u64
abbrev dU:ET:= .int .i64
abbrev I8:ET:= .int .i8
abbrev cI(n:Int):AV:= .c (.I .i64 n)
abbrev cU(n:Int):AV:= .c (.I .u64 n)
abbrev cW(n:Int):AV:= .c (.I .u32 n)
abbrev cB(b:Bool):AV:= .c (.B b)
abbrev cS(T:ET)(xs:List T.den):AV:= .c (.S T xs)
abbrev aZ(z:Int):AV:= .a (av .z z)
abbrev aQ(q:Rat):AV:= .a (av .q q)
section
variable{n:Nat}{Q:fA}{sl sl':List (Nat×AV)}{mem mem':List (Nat×aJ)}{nx:Nat}{gd gd':List (Nat×Bool)}{id:Nat}{ops:Array Oper}{draw:Bool}{y:Code}{p:Pr}{ks cj:List Ks}{i i' n0 b7:Nat}
def rr(h:runs eB n nx draw ops.toList ops.toList 0 ⟨sl,mem,nx,gd⟩ .t []=([],i',⟨sl',mem',n0,gd'⟩,p,ks))(hk:TR Tryz.prog n y ⟨sl',mem',nx+1,[]⟩ Q)
  (hp:p:=by first|trivial| (simp only[Pr.an,Pr.h,num,aA,true_and,and_true];first|done|omega)| (simp[Pr.an,Pr.h,num,aA];done)| (simp[Pr.an,Pr.h,num,aA];omega)) (ho:(!draw||tK ops.toList ks)=true:=by kernel_rfl) (cR:Nat.ble ops.size 1000=true:=by rfl):TR Tryz.prog n (.seq (.region id ops draw) y) ⟨sl,mem,nx,gd⟩ Q:=
 aj (KE MX (jB ar h hp (GL hk ho cR)))
def rt(h:runs eB n nx draw ops.toList ops.toList 0 ⟨sl,mem,nx,gd⟩ .t []=([],i',⟨sl',mem',n0,gd'⟩,p,ks))(hk:fZ n .normal ⟨sl',mem',nx+1,[]⟩ Q)
  (hp:p:=by first|trivial| (simp only[Pr.an,Pr.h,num,aA,true_and,and_true];first|done|omega)| (simp[Pr.an,Pr.h,num,aA];done)| (simp[Pr.an,Pr.h,num,aA];omega)) (ho:(!draw||tK ops.toList ks)=true:=by kernel_rfl) (cR:Nat.ble ops.size 1000=true:=by rfl):TR Tryz.prog n (.region id ops draw) ⟨sl,mem,nx,gd⟩ Q:=
 KE MX (jB ar h hp (GL hk ho cR))
def rb(h:RG Tryz.prog n ops draw nx 0 ops.toList ⟨sl,mem,nx,gd⟩ [] (λst'=>TR Tryz.prog n y st' Q)):TR Tryz.prog n (.seq (.region id ops draw) y) ⟨sl,mem,nx,gd⟩ Q:=aj (KE MX h)
def cG(h:RG Tryz.prog n ops draw nx 0 ops.toList ⟨sl,mem,nx,gd⟩ [] (λst'=>fZ n .normal st' Q)):TR Tryz.prog n (.region id ops draw) ⟨sl,mem,nx,gd⟩ Q:=KE MX h
variable{R:St→Prop}{os:List Oper}{d f:Nat}{args:Array Operand}{di:Array TypeId}{ty:TypeId}{pos:String}{cJ:Array Edge}{cE:List Oper}{vs:List AV}{r:AV}
def rc(h:runs eB n nx draw ops.toList os i ⟨sl,mem,n0,gd⟩ .t ks=(⟨some d,.call ⟨.value (.func f),args,di⟩,ty,pos,cJ,none⟩::cE,i',⟨sl',mem',b7,gd'⟩,p,cj))(hv:kB ⟨sl',mem',b7,gd'⟩ args.toList=some vs)(hf:aG Tryz.prog f vs r)
  (hk:RG Tryz.prog n ops draw nx (i'+1) cE ⟨(d,r)::sl',mem',b7,gd'⟩ (fi draw cj (cF args.toList,[.s d])) R)
  (hp:p:=by first|trivial| (simp only[Pr.an,Pr.h,num,aA,true_and,and_true];first|done|omega)| (simp[Pr.an,Pr.h,num,aA];done)| (simp[Pr.an,Pr.h,num,aA];omega)) (hm:fH vs=[]:=by rfl) (aV:Nat.blt d n=true:=by rfl):RG Tryz.prog n ops draw nx i os ⟨sl,mem,n0,gd⟩ ks R:=
 jB ar h hp (ahe hv hf hk hm aV)
def ia{j tg:Nat}{want b:Bool}(h:runs eB n nx draw ops.toList os i ⟨sl,mem,n0,gd⟩ .t ks=(⟨some d,.call ⟨.value (.func f),args,di⟩,ty,pos,cJ,some (j,want)⟩::cE,i',⟨sl',mem',b7,gd'⟩,p,cj))(hj:wD ops.toList j=some tg)(hb:ao tg sl'=some (.c (.B b)))(uV:b=want)(hv:kB ⟨sl',mem',b7,gd'⟩ args.toList=some vs)(hf:aG Tryz.prog f vs r)
  (hk:RG Tryz.prog n ops draw nx (i'+1) cE ⟨(d,r)::sl',mem',b7,gd'⟩ (fi draw cj (.s tg::cF args.toList,[.s d])) R)
  (hp:p:=by first|trivial| (simp only[Pr.an,Pr.h,num,aA,true_and,and_true];first|done|omega)| (simp[Pr.an,Pr.h,num,aA];done)| (simp[Pr.an,Pr.h,num,aA];omega)) (hm:fH vs=[]:=by rfl) (aV:Nat.blt d n=true:=by rfl):RG Tryz.prog n ops draw nx i os ⟨sl,mem,n0,gd⟩ ks R:=
 jB ar h hp (ahf hj hb uV hv hf hk hm aV)
def re(h:runs eB n nx draw ops.toList os i ⟨sl,mem,n0,gd⟩ .t ks=([],i',⟨sl',mem',b7,gd'⟩,p,cj))(hk:R ⟨sl',mem',nx+1,[]⟩)
  (hp:p:=by first|trivial| (simp only[Pr.an,Pr.h,num,aA,true_and,and_true];first|done|omega)| (simp[Pr.an,Pr.h,num,aA];done)| (simp[Pr.an,Pr.h,num,aA];omega)) (ho:(!draw||tK ops.toList cj)=true:=by kernel_rfl) (cR:Nat.ble ops.size 1000=true:=by rfl):RG Tryz.prog n ops draw nx i os ⟨sl,mem,n0,gd⟩ ks R:=
 jB ar h hp (GL hk ho cR)
def rg(t:Nat){b:Bool}{o:Oper}(h:runs eB n nx draw ops.toList os i ⟨sl,mem,n0,gd⟩ .t ks=(o::cE,i',⟨sl',mem',b7,gd'⟩,p,cj))(hb:ao t sl'=some (.c (.B b)))
  (ht:b=true→RG Tryz.prog n ops draw nx i' (o::cE) ⟨(t,.c (.B true))::sl',mem',b7,(t,true)::gd'⟩ cj R) (hf:b=false→RG Tryz.prog n ops draw nx i' (o::cE) ⟨(t,.c (.B false))::sl',mem',b7,(t,false)::gd'⟩ cj R)
  (hp:p:=by first|trivial| (simp only[Pr.an,Pr.h,num,aA,true_and,and_true];first|done|omega)| (simp[Pr.an,Pr.h,num,aA];done)| (simp[Pr.an,Pr.h,num,aA];omega)):RG Tryz.prog n ops draw nx i os ⟨sl,mem,n0,gd⟩ ks R:=
 jB ar h hp (ahg t hb ht hf)
def rm{t:Nat}{x:Operand}(T:ET)(m:Nat)(h:runs eB n nx draw ops.toList os i ⟨sl,mem,n0,gd⟩ .t ks=(⟨some d,.makeSlice t x x,ty,pos,cJ,none⟩::cE,i',⟨sl',mem',b7,gd'⟩,p,cj)){k:IntKind}{v:Int}(hx:St.ev ⟨sl',mem',b7,gd'⟩ x=some (.c (.I k v))){E:Nat}{ti ei:TI}(fo:ao t eB=some ti)(hkd:ti.kind= .sl E)(jJ:ao E eB=some ei)(kL:ei.size=T.n)
  (hz:∀g:Gh,bS g (av T T.kU) (ei.zero.map ZV.fV)) (hv:v=(m:Int)) (hb:m*ei.bytes≤281474976710656) (dK:m*T.n≤140737488355328)
  (hk:RG Tryz.prog n ops draw nx (i'+1) cE ⟨(d,.c (.X (1000000*nx+1000*i')))::sl',(1000000*nx+1000*i',.vec E T (List.replicate m T.kU))::mem',b7,gd'⟩ (fi draw cj (cF [x,x],[.s d,.m (1000000*nx+1000*i')])) R)
  (hp:p:=by first|trivial| (simp only[Pr.an,Pr.h,num,aA,true_and,and_true];first|done|omega)| (simp[Pr.an,Pr.h,num,aA];done)| (simp[Pr.an,Pr.h,num,aA];omega)) (aV:Nat.blt d n=true:=by rfl):RG Tryz.prog n ops draw nx i os ⟨sl,mem,n0,gd⟩ ks R:=
 jB ar h hp (ahn ar T m hx hv fo hkd jJ kL hz hb dK hk aV)
end
def lN(k:IntKind)(g:Gh):bS g (av (.int k) (ET.kU (.int k))) ([ZV.i k].map ZV.fV):=⟨_,_,ae,ae,ae⟩
def XN(H:FH):Dq H [] (.slice none 0 0):=⟨none,0,ae,bF _,by simp,.inl ae⟩
def BG(g:Gh):bS g (av .z (0:Int)) ([ZV.b,ZV.s].map ZV.fV):=J9 ⟨_,ae,XN _⟩
def KV(g:Gh):bS g (av (.pr .z .z) ((0,0):Int×Int)) ([ZV.b,ZV.s,ZV.b,ZV.s].map ZV.fV):=bS.append (BG g) (BG g)
def ahY(T:ET)(g:Gh):bS g (av (.sl T) []) ([ZV.s].map ZV.fV):=⟨_,_,ae,⟨none,0,ae,bF _,by simp,.inl ae⟩,ae⟩
section
variable{n:Nat}{sl sl':List (Nat×AV)}{mem mem':List (Nat×aJ)}{nx:Nat}{gd gd':List (Nat×Bool)}{ops:Array Oper}{draw:Bool}{p:Pr}{ks cj:List Ks}{i i' n0 b7:Nat}
variable{R:St→Prop}{os:List Oper}{d:Nat}{ty:TypeId}{pos:String}{cJ:Array Edge}{cE:List Oper}
def rl(T:ET)(xs:List T.den){t len:Nat}{parts:Array (Nat×Operand)}(h:runs eB n nx draw ops.toList os i ⟨sl,mem,n0,gd⟩ .t ks=(⟨some d,.buildSlice t len parts,ty,pos,cJ,none⟩::cE,i',⟨sl',mem',b7,gd'⟩,p,cj)){E:Nat}{ei:TI}(hv:BA eB ⟨sl',mem',b7,gd'⟩ t len parts.toList=some (E,ei,xs.flatMap (av T)))
  (hk:RG Tryz.prog n ops draw nx (i'+1) cE ⟨(d,.c (.S T xs))::sl',mem',b7,gd'⟩ (fi draw cj (cF (Op.buildSlice t len parts).operands.toList,[.s d])) R) (hT:ei.size=T.n:=by rfl) (qj:xs.length=len:=by rfl) (sQ:Nat.ble (len*T.n) 16777216=true:=by rfl)
  (hp:p:=by first|trivial| (simp only[Pr.an,Pr.h,num,aA,true_and,and_true];first|done|omega)| (simp[Pr.an,Pr.h,num,aA];done)| (simp[Pr.an,Pr.h,num,aA];omega)) (aV:Nat.blt d n=true:=by rfl):RG Tryz.prog n ops draw nx i os ⟨sl,mem,n0,gd⟩ ks R:=
 jB ar h hp (ahp ar T xs hv hT qj sQ hk aV)
def x8(T:ET)(xs:List T.den){t len:Nat}{parts:Array (Nat×Operand)}(h:runs eB n nx draw ops.toList os i ⟨sl,mem,n0,gd⟩ .t ks=(⟨some d,.buildSlice t len parts,ty,pos,cJ,none⟩::cE,i',⟨sl',mem',b7,gd'⟩,p,cj)){E:Nat}{ei:TI}(hv:BA eB ⟨sl',mem',b7,gd'⟩ t len parts.toList=some (E,ei,xs.flatMap (av T)))
  (hk:RG Tryz.prog n ops draw nx (i'+1) cE ⟨(d,.c (.X (1000000*nx+1000*i')))::sl',(1000000*nx+1000*i',.vec E T xs)::mem',b7,gd'⟩ (fi draw cj (cF (Op.buildSlice t len parts).operands.toList,[.s d,.m (1000000*nx+1000*i')])) R) (hT:ei.size=T.n:=by rfl) (qj:xs.length=len:=by rfl) (sQ:Nat.ble (len*T.n) 16777216=true:=by rfl)
  (hp:p:=by first|trivial| (simp only[Pr.an,Pr.h,num,aA,true_and,and_true];first|done|omega)| (simp[Pr.an,Pr.h,num,aA];done)| (simp[Pr.an,Pr.h,num,aA];omega)) (aV:Nat.blt d n=true:=by rfl):RG Tryz.prog n ops draw nx i os ⟨sl,mem,n0,gd⟩ ks R:=
 jB ar h hp (ahq ar T xs hv hT qj sQ hk aV)
def lO{t:Nat}{x y:Operand}{id m k:Nat}{E:TypeId}{T:ET}{xs:List T.den}{vy:AV}{ag:Bool}(e:T.den)(h:runs eB n nx draw ops.toList os i ⟨sl,mem,n0,gd⟩ .t ks=(⟨none,.store t x y,ty,pos,cJ,none⟩::cE,i',⟨sl',mem',b7,gd'⟩,p,cj))
  (hx:St.ev ⟨sl',mem',b7,gd'⟩ x=some (.c (.Y id m k 0))) (hl:ao id mem'=some (.vec E T xs)) (hy:St.ev ⟨sl',mem',b7,gd'⟩ y=some vy) (eL:jn vy=some (av T e)) (hk:k<xs.length)
  (hr:RG Tryz.prog n ops draw nx (i'+1) cE ⟨sl',(id,.vec E T (xs.set k e))::mem',b7,gd'⟩ (fi draw cj (cF [x,y]++fp [id],[.m id])) R) (hm:T.n=m:=by rfl) (j8:p7 eB t=some (m,ag):=by rfl)
  (hp:p:=by first|trivial| (simp only[Pr.an,Pr.h,num,aA,true_and,and_true];first|done|omega)| (simp[Pr.an,Pr.h,num,aA];done)| (simp[Pr.an,Pr.h,num,aA];omega)):RG Tryz.prog n ops draw nx i os ⟨sl,mem,n0,gd⟩ ks R:=
 jB ar h hp (Bz ar hx hl hy hm j8 e eL hk hr)
def ra{x y:Operand}{t1 t2:TypeId}{id:Nat}{E E2:TypeId}{T:ET}{xs ys:List T.den}{ti rC ei:TI}(h:runs eB n nx draw ops.toList os i ⟨sl,mem,n0,gd⟩ .t ks=(⟨some d,.call ⟨.builtin .append,#[x,y],#[t1,t2]⟩,ty,pos,cJ,none⟩::cE,i',⟨sl',mem',b7,gd'⟩,p,cj))
  (hx:St.ev ⟨sl',mem',b7,gd'⟩ x=some (.c (.X id))) (hl:ao id mem'=some (.vec E T xs)) (hy:St.ev ⟨sl',mem',b7,gd'⟩ y=some (.c (.S T ys))) (fo:ao t1 eB=some ti) (hk:ti.kind= .sl E) (x5:ao t2 eB=some rC) (dL:rC.kind= .sl E2) (jJ:ao E eB=some ei)
  (hb:((xs.length+ys.length)+(xs.length+ys.length)/4+192)*ei.bytes≤281474976710656) (dK:(xs.length+ys.length)*T.n≤140737488355328)
  (hr:RG Tryz.prog n ops draw nx (i'+1) cE ⟨(d,.c (.X (1000000*nx+1000*i')))::sl',(1000000*nx+1000*i',.vec E T (xs++ys))::wC id mem',b7,gd'⟩ (fi draw cj (cF [x,y]++fp [id],[.s d,.m (1000000*nx+1000*i'),.m id])) R) (kL:ei.size=T.n:=by rfl) (k6:ei.zero.length=T.n:=by rfl)
  (hp:p:=by first|trivial| (simp only[Pr.an,Pr.h,num,aA,true_and,and_true];first|done|omega)| (simp[Pr.an,Pr.h,num,aA];done)| (simp[Pr.an,Pr.h,num,aA];omega)) (aV:Nat.blt d n=true:=by rfl):RG Tryz.prog n ops draw nx i os ⟨sl,mem,n0,gd⟩ ks R:=
 jB ar h hp (ahC ar hx hl hy fo hk x5 dL jJ kL k6 hb dK hr aV)
def Qq{x y:Operand}{t1 t2:TypeId}{E E2:TypeId}{T:ET}{ys:List T.den}{ti rC ei:TI}(h:runs eB n nx draw ops.toList os i ⟨sl,mem,n0,gd⟩ .t ks=(⟨some d,.call ⟨.builtin .append,#[x,y],#[t1,t2]⟩,ty,pos,cJ,none⟩::cE,i',⟨sl',mem',b7,gd'⟩,p,cj))
  (hx:St.ev ⟨sl',mem',b7,gd'⟩ x=some (.c (.V (.slice none 0 0)))) (hy:St.ev ⟨sl',mem',b7,gd'⟩ y=some (.c (.S T ys))) (fo:ao t1 eB=some ti) (hk:ti.kind= .sl E) (x5:ao t2 eB=some rC) (dL:rC.kind= .sl E2) (jJ:ao E eB=some ei)
  (hb:(ys.length+ys.length/4+192)*ei.bytes≤281474976710656) (dK:ys.length*T.n≤140737488355328)
  (hr:RG Tryz.prog n ops draw nx (i'+1) cE ⟨(d,.c (.X (1000000*nx+1000*i')))::sl',(1000000*nx+1000*i',.vec E T ys)::mem',b7,gd'⟩ (fi draw cj (cF [x,y],[.s d,.m (1000000*nx+1000*i')])) R) (kL:ei.size=T.n:=by rfl) (k6:ei.zero.length=T.n:=by rfl)
  (hp:p:=by first|trivial| (simp only[Pr.an,Pr.h,num,aA,true_and,and_true];first|done|omega)| (simp[Pr.an,Pr.h,num,aA];done)| (simp[Pr.an,Pr.h,num,aA];omega)) (aV:Nat.blt d n=true:=by rfl):RG Tryz.prog n ops draw nx i os ⟨sl,mem,n0,gd⟩ ks R:=
 jB ar h hp (ahD ar hx hy fo hk x5 dL jJ kL k6 hb dK hr aV)
end
end Go.El
namespace Go.El
open Go Go.RowKit
def KW:AV→Option Bool
 | .c (.V (.slice none 0 0))=>some true
 | .c (.L _ _ _ _)=>some false
 | .c (.S _ (_::_))=>some false
 |_=>none
def Qr(tt:TT)(t:Nat):Bool:=match ao t tt with
 |some ti=>(match ti.kind with| .sl _=>true|_=>false)
 |none=>false
def zR(s:ByteArray)(i:Int):Option Int:=match s[i.toNat]? with
 |some b=>some b.toNat
 |none=>none
def XO(tt:TT)(op:BinOp)(t:Nat)(v w:AV):Option AV:=match w with
 | .c (.V (.slice none 0 0))=>(match Qr tt t,KW v with
  |true,some b=>(match op with
   | .eql=>some (.c (.B b))
   | .neq=>some (.c (.B (!b)))
   |_=>none)
  |_,_=>none)
 |_=>none
def BH(tt:TT)(st:St):Op→Option (AV×Pr)
 | .build t parts=>(match ao t tt with
  |some ti=>(match ti.kind with
   | .arr len E=>(match ao E tt with
    |some ei=>(match Bl (xZ ei.size 0 len) st (ti.zero.map ZV.sD) parts.toList with
     |some cs=>some (.a cs,.t)
     |none=>none)
    |none=>none)
   |_=>none)
  |none=>none)
 | .index t x i=>(match st.ev x,st.ev i with
  |some (.a cs),some (.c (.I _ j))=>(match ao t tt with
   |some ti=>(match ti.kind with
    | .arr len E=>(match p7 tt E with
     |some (sz,ag)=>(match o8 cs (j.toNat*sz) sz ag with
      |some u=>some (u,.and (.le 0 j) (.lt j len))
      |none=>none)
     |none=>none)
    |_=>none)
   |none=>none)
  |some (.c (.V (.string s))),some (.c (.I _ j))=>(match ao t tt with
   |some ti=>(match ti.kind,zR s j with
    | .str,some b=>some (.c (.I .u8 b),.le 0 j)
    |_,_=>none)
   |none=>none)
  |_,_=>none)
 | .binOp op t x y _=>(match st.ev x,st.ev y with
  |some v,some w=>(match XO tt op t v w with
   |some u=>some (u,.t)
   |none=>none)
  |_,_=>none)
 |_=>none
section
variable{P:Program}{tt:TT}{g:Gh}{W:World}
def ahZ{v:AV}{b:Bool}(h:KW v=some b){u:Value}(hu:bP g v u):∃a l c,u= .slice a l c∧a.isNone=b:=by
 unfold KW at h;split at h
 ·cases h;have jh:u= .slice none 0 0:=hu;exact⟨none,0,0,jh,ae⟩
 ·rename_i id off len cap;cases h;cases cap with
  |some c=>obtain⟨b,_,rfl⟩:=hu;exact⟨_,_,_,ae,ae⟩
  |none=>obtain⟨_,b,c,_,rfl,_⟩:=hu;exact⟨_,_,_,ae,ae⟩
 ·rename_i T x xs;cases h;obtain⟨a,cap,rfl,_,_,h1⟩:=hu;rcases h1 with h1|⟨b,off,rfl,_⟩
  ·cases h1
  ·exact⟨_,_,_,ae,ae⟩
 ·cases h
def ah0{t e:TypeId}(hu:P.underlying t=some (.slice e))(a:Option Addr)(l c:Nat):(Op.equal t (.slice a l c) (.slice none 0 0)).run P W= .ok a.isNone W:=by rw[Op.equal,show Op.maxDepth=9999+1 from ae,Op.equalIn];cases a<;>simp[run_underlying hu]
def ah1(aT:cL P tt=true){F:c8}{known:Nat→Prop}{σ:Kn}{g:Gh}{W:World}{a:Act}(aH:bJ F known σ g W a){o:Oper}{bo:BinOp}{t:TypeId}{y z:Operand}{ty:TypeId}(b9:o.op= .binOp bo t y z ty){v:AV}{b:Bool}(va:Qr tt t=true)(hn:KW v=some b){x:AV}
  (he:(bo= .eql∧x=AV.c (.B b))∨(bo= .neq∧x=AV.c (.B (!b)))) (h1:bP g v (a.eval y)∧∀id∈v.aD,known id) (zD:a.eval z= .slice none 0 0):
  (∀id∈x.aD,known id)∧∃v,(execOp a.eval o).run P W= .ok (.value v) W∧bP g x v:=by
 obtain⟨ad,l,c,BI,hb⟩:=ahZ hn h1.1
 have BJ:∃e,P.underlying t=some (.slice e):=by
  unfold Qr at va;split at va
  ·rename_i ti fo;split at va
   ·rename_i e hk;have h2:=(gL aT fo).kind;rw[hk]at h2;exact⟨e,h2⟩
   ·cases va
  ·cases va
 obtain⟨e,BJ⟩:=BJ
 have lG:execOp a.eval o=(do pure (.value (←(do eqGuard bo t y z (a.eval y) (a.eval z);binOp bo t (a.eval y) (a.eval z):Go.Sem Value)))):=yW
 have heq:=ah0 (P:=P) (W:=W) BJ ad l c
 rcases he with⟨rfl,rfl⟩|⟨rfl,rfl⟩
 ·refine⟨λid al=>by simp[AV.aD,C.aD]at al,.bool b,?_,ae⟩;rw[lG,BI,zD];simp[eqGuard,binOp,heq,Result.andThen,hb]
 ·refine⟨λid al=>by simp[AV.aD,C.aD]at al,.bool (!b),?_,ae⟩;rw[lG,BI,zD];simp[eqGuard,binOp,heq,Result.andThen,hb]
def ah2(aT:cL P tt=true){ops:Array Oper}{i:Nat}{o:Oper}{d:Nat}(ho:ops[i]? =some o)(hg:o.guard=none)(hd:o.dst=some d){n:Nat}(aV:d<n)
  {st:St} {x:AV} {p:Pr} (he:BH tt st o.op=some (x,p)) (hp:p) (new:Nat):mj P n ops i (o9 st o.op) [(.s d,some (.v x))] new:=by
 refine uS ho hg hd aV _ x new ?_
 intro F known σ g W a aH bt
 have fG:∀y∈o.op.operands,∀kx∈dQ st y,σ kx.1=some kx.2:=by intro y hy kx aS;exact bt kx (jE.2 ⟨y,by simpa using hy,aS⟩)
 have dR:∀y∈o.op.operands,∀u,st.ev y=some u→bP g u (a.eval y)∧∀id∈u.aD,known id:=by intro y hy u hu;exact⟨gy aH st y u hu (fG y hy),uR aH st y u hu (fG y hy)⟩
 generalize b9:o.op=op at he dR fG bt
 unfold BH at he
 split at he
 ·rename_i t parts;split at he
  ·rename_i ti fo;split at he
   ·rename_i len E hk;split at he
    ·rename_i ei jJ;split at he
     ·rename_i cs eL;cases he;have h2:=(gL aT fo).kind;rw[hk]at h2;have hu:P.underlying t=some (.array len E):=h2;obtain⟨inf,lI,cR,_,z,hz,p8⟩:=(gL aT fo).info;obtain⟨ie,xM,BK,_⟩:=(gL aT jJ).info;have hzr:bS g (ti.zero.map ZV.sD) (ti.zero.map ZV.fV):=DN g ti.zero;obtain⟨us,ah4,bU,hlen,zB⟩:=Ku aH st (xZ ei.size 0 len) (λi=>some (i*ei.size,ei.size)) (λi y hy=>by have:=P3 ei.size len 0 i y hy;rw[this,eR]) parts.toList _ cs _ eL hzr (λq hq kx aS=>bt kx (jE.2 ⟨q.2,by simp only[Op.operands];simp only[nQ];exact⟨q,hq,ae⟩,aS⟩)) (by rw[Kw];intro _ h;cases h);refine⟨zB,.agg us.toArray,?_,us,ae,bU⟩;have zD:(zeroValue t).run P W= .ok z W:=by simp[zeroValue,typeInfo,lI,hz]
      have uU:z.cells=(ti.zero.map ZV.fV).toArray:=FO;have lG:execOp a.eval o=(do pure (.value (←Instr.build t (parts.map λ(i,x)=>(i,a.eval x))))):=yW;have jI:(parts.map λ(i,x)=>(i,a.eval x)).toList=parts.toList.map λp=>(p.1,a.eval p.2):=be
      have hb:(Instr.build t (parts.map λ(i,x)=>(i,a.eval x))).run P W= .ok (.agg us.toArray) W:=by unfold Instr.build;rw[Sem.run_bind,zD];simp only[Result.andThen];rw[Sem.run_bind,run_underlying hu];simp only[Result.andThen];rw[Sem.run_bind,run_sizeOf xM];simp only[Result.andThen,jI,uU,BK,ah4];rfl
      rw[lG,Sem.run_bind,hb];rfl
     ·cases he
    ·cases he
   ·cases he
  ·cases he
 ·rename_i t y j;have lG:execOp a.eval o=(do pure (.value (←Instr.index t (a.eval y) (a.eval j)))):=yW;split at he
  ·rename_i cs k jj hy hj;split at he
   ·rename_i ti fo;split at he
    ·rename_i len E hk;split at he
     ·rename_i sz ag j8;split at he
      ·rename_i u hu;cases he;obtain⟨jl,dK⟩:0≤jj∧jj<(len:Int):=hp;have h2:=(gL aT fo).kind;rw[hk]at h2;have BJ:P.underlying t=some (.array len E):=h2;obtain⟨vs,GG,bU⟩:=(dR y iF _ hy).1;have Qs:a.eval j= .int k jj:=(dR j iF _ hj).1;obtain⟨tH,⟨inf,lI,cR⟩,_⟩:=Gy aT j8;obtain⟨v,hv,hvr⟩:=WH (P:=P) bU hu tH lI cR W;refine⟨λid al=>(dR y iF _ hy).2 id (DH hu id al),v,?_,hvr⟩;have bZ:(Instr.index t (a.eval y) (a.eval j)).run P W= .ok v W:=by rw[GG,Qs];unfold Instr.index;simp only[asIntOf,Sem.run_bind,Sem.run_pure,Result.andThen,run_underlying BJ,jl,dK,and_self,cM,run_sizeOf lI,cR];exact hv
       rw[lG,Sem.run_bind,bZ];rfl
      ·cases he
     ·cases he
    ·cases he
   ·cases he
  ·rename_i s k jj hy hj;split at he
   ·rename_i ti fo;split at he
    ·rename_i b hk hb;cases he;have jl:0≤jj:=hp;have h2:=(gL aT fo).kind;rw[hk]at h2;have BJ:P.underlying t=some .string:=h2;have BI:a.eval y= .string s:=(dR y iF _ hy).1;have Qs:a.eval j= .int k jj:=(dR j iF _ hj).1;refine⟨λid al=>by simp[AV.aD,C.aD]at al,.int .u8 b,?_,ae⟩;have bZ:(Instr.index t (a.eval y) (a.eval j)).run P W= .ok (.int .u8 b) W:=by
      rw[BI,Qs];unfold zR at hb;unfold Instr.index;simp only[asIntOf,Sem.run_bind,Sem.run_pure,Result.andThen,run_underlying BJ,jl,cM];split at hb
      ·rename_i bb qo;cases hb;rw[qo];rfl
      ·cases hb
     rw[lG,Sem.run_bind,bZ];rfl
    ·cases he
   ·cases he
  ·cases he
 ·rename_i bo t y z ty;split at he
  ·rename_i v w hy hz;split at he
   ·rename_i u0 x9;cases he;unfold XO at x9;split at x9
    ·split at x9
     ·rename_i b va hn;have ah6:(bo= .eql∧x=AV.c (.B b))∨(bo= .neq∧x=AV.c (.B (!b))):=by
       split at x9
       ·cases x9;exact .inl ⟨ae,ae⟩
       ·cases x9;exact .inr ⟨ae,ae⟩
       ·cases x9
      exact ah1 aT aH b9 va hn ah6 (dR y iF _ hy) (dR z iF _ hz).1
     ·cases x9
    ·cases x9
   ·cases he
  ·cases he
 ·cases he
end
def XP(W:World)(H:FH)(E:TypeId)(T:ET)(xs:List T.den)(e:Ending)(W':World):Prop:=
 ∃v H',e= .returned v∧ji (λb=>W.heap.size≤b) ⟨H',λ_=>v⟩ W' 0 (.vec E T xs)∧cC H H'∧(∀b o,b<W.heap.size→H' b o=H b o)∧Sub H' W'∧Below W.heap.size W W'
structure mY(P:Program)(f:FuncId)(args:List AV)(E:TypeId)(T:ET)(xs:List T.den):Prop where
 call:ml P f=true
 spec:∀H W vs,Sub H W→jo ⟨H,jb⟩ args vs→Calls P f vs.toArray W (XP W H E T xs)
def XQ(P:Program)(fn:Func)(E:TypeId)(T:ET)(xs:List T.den):fA:=λF e a W=>(∀b,¬F.own b)→bodyPost P fn (XP F.w0 F.H0 E T xs) e a W
section
variable{P:Program}{tt:TT}{n:Nat}{st:St}
def ya(aT:cL P tt=true){fn:Func}{t id:Nat}{E:TypeId}{T:ET}{xs:List T.den}(hl:ao t st.sl=some (.c (.X id)))(hm:ao id st.mem=some (.vec E T xs))(fG:fn.results= #[.tmp t]:=by rfl):fZ n .ret st (XQ P fn E T xs):=by
 intro F hF g W a h sL;obtain⟨u,hu,bU⟩:=Bv (rs:=[.tmp t]) (v:= .c (.X id)) aT h fG (by simp[tN,Bt,hl]);have jK:=h.c9 id (.vec E T xs) (by simp[St.kn,hm]);have KX:u=g.γ id:=bU;refine⟨h.defers.trans hF.ds,u,hu,u,g.H,ae,?_,h.le,λb o hb=>h.fresh b o hb (sL b),h.sub,⟨h.below.os,h.below.tape,h.below.output,h.below.size,λk hk=>h.below.block k hk (sL k)⟩⟩;rcases jK with⟨e1,e2⟩|⟨b,cap,vs,e1,e2,e3,e4,e5,e6,e7,e8⟩
 ·exact .inl ⟨by rw[KX];exact e1,e2⟩
 ·refine .inr ⟨b,cap,vs,by rw[KX];exact e1,e2,e3,e4,e5,e6,?_,e8⟩;rcases e7 with e7|e7
  ·exact e7
  ·exact(sL b e7).elim
def zS{f:FuncId}{fn:Func}{c:Code}{args:List AV}{E:TypeId}{T:ET}{xs:List T.den}(hf:P.funcs[f]? =some fn)(hb:fn.body=some c)(hN:fn.ntmps=n)(hle:Nat.ble args.length n=true)(mm:fH args=[])(sM:(fn.name != "runtime.NumGoroutine")=true)
  (h:TR P n c ⟨kZ 0 args,[],0,[]⟩ (XQ P fn E T xs)):mY P f args E T xs:=by
 refine⟨by simp[ml,hf,hb,sM],?_⟩
 intro H W vs eI bU
 refine calls_of_wp hf hb ?_
 have hlen:=zK bU
 have hle:=cT hle
 refine wp_mono (h {w0:=W,H0:=H,n:=n} ⟨ae,bK _,ae,ae⟩ ⟨H,jb⟩ W _ ⟨?_,ae,?_,?_,?_,?_,?_,eI,⟨ae,ae,ae,bF _,λ_ _ _=>rfl⟩,cC.refl _,λ_ _ _ _=>rfl,λ_ h=>absurd h (A3 _)⟩) (λe a W' hq=>hq (λ_ h=>h))
 ·simp[hN];omega
 ·intro t v ht;simp only[St.kn,cq]at ht;obtain⟨x,hx,he⟩:=ht;cases he;obtain⟨_,u,hu,hr,_⟩:=pj args vs 0 bU t v hx;have jh:vs[t]? =some u:=C1;have bh:t<vs.length:=(v7.1 jh).1;have:(vs.toArray++Array.replicate (fn.ntmps-vs.toArray.size) undef).getD t undef=u:=by rw[v5,AT FP];simp[jh]
  rw[this];exact hr
 ·intro id b e;simp[St.kn,ao]at e
 ·intro id b6 b b' k e;simp[St.kn,ao]at e
 ·intro k x e id al;cases k with
  |m j=>simp[St.kn,ao]at e
  |s t=>
   simp only[St.kn,cq]at e
   obtain⟨y,hy,he⟩:=e
   subst he
   obtain⟨_,u,_,_,h6⟩:=pj args vs 0 bU t y hy
   have:=h6 id al
   rw[mm]at this
   cases this
 ·intro id x e;simp[St.kn,ao]at e
def ah7{n new:Nat}{ops:Array Oper}{i:Nat}{o:Oper}(ho:ops[i]? =some o)(hg:o.guard=none){d:Nat}(hd:o.dst=some d)(aV:d<n){f:FuncId}{args:Array Operand}{di:Array TypeId}(b9:o.op= .call ⟨.value (.func f),args,di⟩)
  {st:St} {vs:List AV} {E:TypeId} {T:ET} {xs:List T.den} (hv:kB st args.toList=some vs) (hm:fH vs=[]) (hf:mY P f vs E T xs):kY P n ops i st ((st.pm new (.vec E T xs)).put d (.c (.X new))) new (cF args.toList,[.s d,.m new]):=by
 refine⟨args.toList.flatMap (dQ st),[(.s d,some (.v (.c (.X new)))),(.m new,some (.b (.vec E T xs)))],?_,?_,Bn st d new _ _,fR st _,λk hk=>by simpa[fe]using hk⟩
 ·intro F fW Q known σ g W a K dT aH bt hK;have kv:=(zH aH st _ _ hv bt).hJ (γ:=jb) hm;have hc:=hf.spec g.H W _ aH.sub kv;unfold wpOp;simp only[ho,Region.wanted,hg,cM];refine .inl ?_;unfold Oper.wp;have hex:(execOp a.eval o).run P W= .ok (.enter f (args.map a.eval)) W:=by
   have cw:=hf.call;unfold ml at cw;rw[execOp,b9];cases iv:P.funcs[f]? with
   |none=>rw[iv]at cw;simp at cw
   |some fn=>
    rw[iv]at cw
    simp only[eQ,bne_iff_ne,ne_eq]at cw
    have h2:fn.body≠none:=by intro hb;rw[hb]at cw;simp at cw
    simp[resolve,Act.eval,Deferred.ofValue,invoke,callFunc,iv,cw.1,h2]
  rw[hex];simp only[Oper.upon];have iL:(args.map a.eval)=(args.toList.map a.eval).toArray:=vX;rw[iL];refine hc.mono ?_;rintro e W' ⟨v,H',rfl,jK,hle,lK,eI,eJ⟩;simp only[hd];have cR:d<a.tmps.size:=qY;let g':Gh:=⟨H',λid=>if id=new then v else g.γ id⟩;have oB:iH known g g':=⟨hle,λid al=>by
   have:id≠new:=λe=>dT (e▸al)
   simp[g',this]⟩
  refine hK g' W' _ (aH.step (chg:=λ_=>False) (g':=g') ⟨oB,lK,eI,eJ.size,λk hk _=>eJ.block k hk,eJ.os,eJ.tape,eJ.output⟩ _ new dT sc aH.defers ?_ (λ_ h=>h.elim) ?_ ?_ ?_ ?_)
  ·intro t ht;have aN:d≠t:=ts;simp[Act.put,nN aN]
  ·intro t u ht;simp only[a9]at ht;split at ht
   ·rename_i e;simp only[Key.s.injEq]at e;simp only[aO,Info.v.injEq]at ht;subst e;subst ht;simp[Act.put,cR,bP,dk,g']
   ·split at ht
    ·simp at ht
    ·simp at ht
  ·intro id b ht;simp only[a9,reduceCtorEq,cP]at ht;split at ht
   ·rename_i e;simp only[Key.m.injEq]at e;simp only[aO,Info.b.injEq]at ht;subst e;subst ht;have zT:=aH.below.size;rcases jK with⟨e1,e2⟩|⟨b,cap,ws,e1,e2,e3,e4,e5,e6,e7,e8⟩
    ·refine⟨.inl ⟨by simpa[g']using e1,e2⟩,.inr ⟨ae,λk hk=>?_⟩⟩;have e1:v= .slice none 0 0:=e1;simp[g',e1,cN]at hk
    ·have e1:v= .slice (some ⟨b,0,none⟩) xs.length cap:=e1;have e7:W.heap.size≤b:=e7;refine⟨.inr ⟨b,cap,ws,by simpa[g']using e1,e2,e3,e4,e5,e6,.inl af,e8⟩,.inr ⟨ae,λk hk=>?_⟩⟩;simp[g',e1,cN]at hk;exact .inl af
   ·simp at ht
  ·intro k y ht;simp only[a9]at ht;split at ht
   ·simp only[aO]at ht;subst ht;intro id al;simp[Info.aD,AV.aD,C.aD]at al;exact .inr al
   ·split at ht
    ·simp only[aO]at ht;subst ht;intro id al;simp[Info.aD,aJ.aD]at al
    ·simp at ht
  ·intro id y ht;simp only[a9,reduceCtorEq,cP]at ht;split at ht
   ·rename_i e;simp only[Key.m.injEq]at e;exact .inr e.symm
   ·simp at ht
 ·intro kx aS;obtain⟨x,_,h⟩:=jE.1 aS;exact fY st x kx h
def ah8{n:Nat}{ops:Array Oper}{draw:Bool}{nx i:Nat}{d f:Nat}{args:Array Operand}{di:Array TypeId}{ty:TypeId}{pos:String}{cJ:Array Edge}{os:List Oper}{sl:List (Nat×AV)}{mem:List (Nat×aJ)}{n0:Nat}{gd:List (Nat×Bool)}{ks:List Ks}{Q:St→Prop}{vs:List AV}{E:TypeId}{T:ET}{xs:List T.den}
  (hv:kB ⟨sl,mem,n0,gd⟩ args.toList=some vs) (hf:mY P f vs E T xs) (h:RG P n ops draw nx (i+1) os ⟨(d,.c (.X (1000000*nx+1000*i)))::sl,(1000000*nx+1000*i,.vec E T xs)::mem,n0,gd⟩ (fi draw ks (cF args.toList,[.s d,.m (1000000*nx+1000*i)])) Q) (hm:fH vs=[]:=by rfl) (aV:Nat.blt d n=true:=by rfl):
  RG P n ops draw nx i (⟨some d,.call ⟨.value (.func f),args,di⟩,ty,pos,cJ,none⟩::os) ⟨sl,mem,n0,gd⟩ ks Q:=
 kM (λho=>ah7 ho ae ae (cT aV) ae hv hm hf) (jA h)
end
end Go.El
namespace Go.El
open Go Go.RowKit Go.Proofs
section
variable{P:Program}{tt:TT}
def ah9(aT:cL P tt=true){n new:Nat}{ops:Array Oper}{i:Nat}{o:Oper}(ho:ops[i]? =some o)(hg:o.guard=none){d:Nat}(hd:o.dst=some d)(aV:d<n){st:St}{x:AV}{p:Pr}(he:BH tt st o.op=some (x,p))(hp:p):kY P n ops i st (st.put d x) new (cF o.op.operands.toList,[.s d]):=by refine⟨o9 st o.op,[(.s d,some (.v x))],ah2 aT ho hg hd aV he hp new,?_,nV st d x,fR st _,λk hk=>by simpa[fe]using hk⟩;intro kx aS;obtain⟨x,_,h⟩:=jE.1 aS;exact fY st x kx h
def ah'{n:Nat}{ops:Array Oper}{draw:Bool}{nx i:Nat}{d:Nat}{op:Op}{ty:TypeId}{pos:String}{cJ:Array Edge}{os:List Oper}{sl:List (Nat×AV)}{mem:List (Nat×aJ)}{n0:Nat}{gd:List (Nat×Bool)}{ks:List Ks}{Q:St→Prop}(aT:cL P tt=true){x:AV}{p:Pr}(he:BH tt ⟨sl,mem,n0,gd⟩ op=some (x,p))(hp:p)
  (h:RG P n ops draw nx (i+1) os ⟨(d,x)::sl,mem,n0,gd⟩ (fi draw ks (cF op.operands.toList,[.s d])) Q) (aV:Nat.blt d n=true:=by rfl):
  RG P n ops draw nx i (⟨some d,op,ty,pos,cJ,none⟩::os) ⟨sl,mem,n0,gd⟩ ks Q:=
 kM (λho=>ah9 aT ho ae ae (cT aV) he hp) (jA h)
end
section
variable{n:Nat}{Q:fA}{sl sl':List (Nat×AV)}{mem mem':List (Nat×aJ)}{nx:Nat}{gd gd':List (Nat×Bool)}{ops:Array Oper}{draw:Bool}{p:Pr}{ks cj:List Ks}{i i' n0 b7:Nat}{os cE:List Oper}{d:Nat}{ty:TypeId}{pos:String}{cJ:Array Edge}{R:St→Prop}
def rx{op:Op}{x:AV}{pm:Pr}(h:runs eB n nx draw ops.toList os i ⟨sl,mem,n0,gd⟩ .t ks=(⟨some d,op,ty,pos,cJ,none⟩::cE,i',⟨sl',mem',b7,gd'⟩,p,cj))(he:BH eB ⟨sl',mem',b7,gd'⟩ op=some (x,pm))(jI:pm)
  (hk:RG Tryz.prog n ops draw nx (i'+1) cE ⟨(d,x)::sl',mem',b7,gd'⟩ (fi draw cj (cF op.operands.toList,[.s d])) R)
  (hp:p:=by first|trivial| (simp only[Pr.an,Pr.h,num,aA,true_and,and_true];first|done|omega)| (simp[Pr.an,Pr.h,num,aA];done)| (simp[Pr.an,Pr.h,num,aA];omega)) (aV:Nat.blt d n=true:=by rfl):RG Tryz.prog n ops draw nx i os ⟨sl,mem,n0,gd⟩ ks R:=
 jB ar h hp (ah' ar he jI hk aV)
def wK{f:FuncId}{args:Array Operand}{di:Array TypeId}{vs:List AV}{E:TypeId}{T:ET}{xs:List T.den}(h:runs eB n nx draw ops.toList os i ⟨sl,mem,n0,gd⟩ .t ks=(⟨some d,.call ⟨.value (.func f),args,di⟩,ty,pos,cJ,none⟩::cE,i',⟨sl',mem',b7,gd'⟩,p,cj))(hv:kB ⟨sl',mem',b7,gd'⟩ args.toList=some vs)(hf:mY Tryz.prog f vs E T xs)
  (hk:RG Tryz.prog n ops draw nx (i'+1) cE ⟨(d,.c (.X (1000000*nx+1000*i')))::sl',(1000000*nx+1000*i',.vec E T xs)::mem',b7,gd'⟩ (fi draw cj (cF args.toList,[.s d,.m (1000000*nx+1000*i')])) R)
  (hp:p:=by first|trivial| (simp only[Pr.an,Pr.h,num,aA,true_and,and_true];first|done|omega)| (simp[Pr.an,Pr.h,num,aA];done)| (simp[Pr.an,Pr.h,num,aA];omega)) (hm:fH vs=[]:=by rfl) (aV:Nat.blt d n=true:=by rfl):RG Tryz.prog n ops draw nx i os ⟨sl,mem,n0,gd⟩ ks R:=
 jB ar h hp (ah8 hv hf hk hm aV)
end
end Go.El
namespace Go.El
open Go Go.RowKit
def D8(i j:Nat):AV→AV
 | .c (.X k)=>if k=j then .c (.X i)else .c (.X k)
 |v=>v
def D9(i j:Nat):List (Nat×AV)→List (Nat×AV)
 |[]=>[]
 | (t,v)::r=>(t,D8 i j v)::D9 i j r
def BL(i j:Nat):List (Nat×aJ)→List (Nat×aJ)
 |[]=>[]
 | (k,b)::r=>(if k=j then i else k,b)::BL i j r
def KY(i j:Nat):AV→Bool
 | .c (.X k)=> !(k==i)
 |v=>v.aD.all λk=> !(k==i)&& !(k==j)
def KZ(i j:Nat):List (Nat×AV)→Bool
 |[]=>true
 | (_,v)::r=>KY i j v&&KZ i j r
def Ea(i j:Nat):List (Nat×aJ)→Bool
 |[]=>true
 | (k,b)::r=> !(k==i)&&(b.aD.all λk=> !(k==i)&& !(k==j))&&Ea i j r
def XR(i j t:Nat):∀l:List (Nat×AV),ao t (D9 i j l)=(ao t l).map (D8 i j)
 |[]=>rfl
 | (k,v)::r=>by simp only[D9,ao,XR i j t r];split<;>rfl
def XS{i j t:Nat}{v:AV}:∀{l:List (Nat×AV)},KZ i j l=true→ao t l=some v→KY i j v=true
 |[],_,h=>by simp[ao]at h
 | (k,x)::r,h,hl=>by
  simp only[KZ,eQ]at h;simp only[ao]at hl;split at hl
  ·cases hl;exact h.1
  ·exact XS h.2 hl
def XT{i j t:Nat}{b:aJ}:∀{l:List (Nat×aJ)},Ea i j l=true→ao t l=some b→t≠i∧∀k∈b.aD,k≠i∧k≠j
 |[],_,h=>by simp[ao]at h
 | (k,x)::r,h,hl=>by
  simp only[Ea,eQ,wg]at h;simp only[ao]at hl;split at hl
  ·rename_i e;cases hl;subst e;exact⟨by simpa using h.1.1,λk hk=>by simpa using h.1.2 k hk⟩
  ·exact XT h.2 hl
def Qt{i j:Nat}(t:Nat){b:aJ}:∀{l:List (Nat×aJ)},Ea i j l=true→ao t (BL i j l)=some b→(t=i∧ao j l=some b)∨(t≠i∧t≠j∧ao t l=some b)
 |[],_,h=>by simp[BL,ao]at h
 | (k,x)::r,h,hl=>by
  simp only[Ea,eQ]at h;have BM:k≠i:=by simpa using h.1.1
  simp only[BL,ao]at hl;by_cases BN:k=j
  ·rw[aw BN]at hl;subst BN;split at hl
   ·rename_i e;cases hl;exact .inl ⟨e.symm,by simp[ao]⟩
   ·rename_i aN;rcases Qt t h.2 hl with⟨rfl,_⟩|⟨h1,h2,h3⟩
    ·exact absurd ae aN
    ·exact .inr ⟨h1,h2,by simp only[ao];rw[aq (λ(e:k=t)=>h2 e.symm)];exact h3⟩
  ·rw[aq BN]at hl;split at hl
   ·rename_i e;cases hl;subst e;exact .inr ⟨BM,BN,by simp[ao]⟩
   ·rename_i aN;rcases Qt t h.2 hl with⟨rfl,h2⟩|⟨h1,h2,h3⟩
    ·exact .inl ⟨ae,by simp only[ao,aq BN];exact h2⟩
    ·exact .inr ⟨h1,h2,by simp only[ao,aq aN];exact h3⟩
def qq(i j:Nat){sl:List (Nat×AV)}{mem:List (Nat×aJ)}{nx:Nat}{gd:List (Nat×Bool)}(hi:Nat.blt i (1000000*nx)=true)(hs:KZ i j sl=true)(hm:Ea i j mem=true)(DA:Nat.ble 1 i=true:=by rfl):Wk ⟨sl,mem,nx,gd⟩ ⟨D9 i j sl,BL i j mem,nx,gd⟩:=by
 intro F gM g W a h;have hi:i<1000000*nx:=by simpa[Nat.blt_eq]using hi
 let g':Gh:=⟨g.H,λid=>if id=i then g.γ j else g.γ id⟩;have hle:iH (λid=>id≠i) g g':=⟨cC.refl _,λid al=>aq al⟩;have lQ:g'.γ i=g.γ j:=aw ae;have ny:∀id,id≠i→g'.γ id=g.γ id:=λid al=>aq al
 have hS:∀t v',St.kn ⟨D9 i j sl,BL i j mem,nx,gd⟩ (.s t)=some (.v v')→∃v,ao t sl=some v∧v'=D8 i j v:=by intro t v' e;simp only[St.kn,XR,Option.map_map,cq]at e;obtain⟨v,hv,he⟩:=e;cases he;exact⟨v,hv,ae⟩
 have hM:∀t b,St.kn ⟨D9 i j sl,BL i j mem,nx,gd⟩ (.m t)=some (.b b)→(t=i∧ao j mem=some b)∨(t≠i∧t≠j∧ao t mem=some b):=by intro t b e;simp only[St.kn,cq]at e;obtain⟨v,hv,he⟩:=e;cases he;exact Qt t hm hv
 have XU:∀t u b,ao t mem=some b→ji F.N g W t b→g'.γ u=g.γ t→ji F.N g' W u b:=by
  intro t u b hb hr hγ;have zB:=(XT hm hb).2;cases b with
  |box E bz cs=>
   obtain⟨k,vs,rest,e1,e2,e3,e4,e5,e6⟩:=hr
   exact⟨k,vs,rest,by rw[hγ];exact e1,e2,bS.mono hle (λid al=>(zB id al).1) e3,e4,e5,by rw[hγ];exact e6⟩
  |vec E T ys=>
   rcases hr with⟨e1,e2⟩|⟨k,cap,vs,e1,e2⟩
   ·exact .inl ⟨by rw[hγ];exact e1,e2⟩
   ·exact .inr ⟨k,cap,vs,by rw[hγ];exact e1,e2⟩
  |fQ f first caps=>
   obtain⟨us,ws,e1,e2,e3⟩:=hr
   exact⟨us,ws,by rw[hγ];exact e1,dt.mono hle (λid al=>(zB id (fM _ al)).1) e2,dt.mono hle (λid al=>(zB id (jY _ al)).1) e3⟩
  |fz E cs=>
   obtain⟨k,vs,rest,e1,e2,e3,e4,e5⟩:=hr
   exact⟨k,vs,rest,by rw[hγ];exact e1,e2,bS.mono hle (λid al=>(zB id al).1) e3,e4,e5⟩
 have rG:∀t b,ao t mem=some b→St.kn ⟨sl,mem,nx,gd⟩ (.m t)=some (.b b):=λt b hb=>by simp[St.kn,hb]
 refine⟨g',h.size,h.defers,?_,?_,?_,?_,?_,h.sub,h.below,h.le,h.fresh,λid al=>⟨(h.iu id al).1,by have:=cT DA;rw[ny id af];exact(h.iu id al).2⟩⟩
 ·intro t v' e;obtain⟨v,hv,rfl⟩:=hS t v' e;have hr:=h.gw t v JF;have rA:=XS hs hv;unfold D8;split
  ·rename_i k;have BM:k≠i:=by simpa[KY]using rA
   have D3:a.tmps.getD t undef=g.γ k:=hr;split
   ·rename_i e';subst e';show _=g'.γ i;rw[lQ];exact D3
   ·show _=g'.γ k;rw[ny k BM];exact D3
  ·rename_i aN;refine bP.mono hle (λid al=>?_) hr;unfold KY at rA;split at rA
   ·rename_i k;exact absurd ae (aN k)
   ·have:=(wg.1 rA) id al;simp at this;exact this.1
 ·intro t b e;rcases hM t b e with⟨rfl,hb⟩|⟨h1,h2,hb⟩
  ·exact XU j t b hb (h.c9 j b (rG j b hb)) lQ
  ·exact XU t t b hb (h.c9 t b (rG t b hb)) (ny t h1)
 ·intro t u b b' k e e' hk du;rcases hM t b e with⟨rfl,hb⟩|⟨h1,h2,hb⟩<;>rcases hM u b' e' with⟨rfl,dm⟩|⟨zu,pY,dm⟩
  ·rfl
  ·rw[lQ]at hk;rw[ny u zu]at du;exact absurd (h.inj j u b b' k (rG _ _ hb) (rG _ _ dm) hk du) (λe=>pY e.symm)
  ·rw[lQ]at du;rw[ny t h1]at hk;exact absurd (h.inj t j b b' k (rG _ _ hb) (rG _ _ dm) hk du) h2
  ·rw[ny t h1]at hk;rw[ny u zu]at du;exact h.inj t u b b' k (rG _ _ hb) (rG _ _ dm) hk du
 ·intro key x e id al;cases key with
  |s t=>
   cases x with
   |b b'=>simp only[St.kn,cq]at e;obtain⟨_,_,he⟩:=e;cases he
   |v v'=>
    obtain⟨v,hv,rfl⟩:=hS t v' e
    have jq:=h.aD (.s t) (.v v) JF
    have al:id∈(D8 i j v).aD:=al
    unfold D8 at al
    split at al
    ·split at al
     ·simp only[AV.aD,C.aD,jw]at al;subst al;exact hi
     ·exact jq id al
    ·exact jq id al
  |m t=>
   cases x with
   |v v'=>simp only[St.kn,cq]at e;obtain⟨_,_,he⟩:=e;cases he
   |b b'=>
    rcases hM t b' e with⟨rfl,hb⟩|⟨h1,h2,hb⟩
    ·exact h.aD (.m j) (.b b') (rG j b' hb) id al
    ·exact h.aD (.m t) (.b b') (rG t b' hb) id al
 ·intro t x e;cases x with
  |v v'=>simp only[St.kn,cq]at e;obtain⟨_,_,he⟩:=e;cases he
  |b b'=>
   rcases hM t b' e with⟨rfl,hb⟩|⟨h1,h2,hb⟩
   ·exact hi
   ·exact h.fy t _ (rG t b' hb)
def Wk.trans{a b c:St}(h:Wk a b)(k:Wk b c):Wk a c:=λF hk g W ac hh=>by obtain⟨g',h'⟩:=h F hk g W ac hh;exact k F hk g' W ac h'
end Go.El
