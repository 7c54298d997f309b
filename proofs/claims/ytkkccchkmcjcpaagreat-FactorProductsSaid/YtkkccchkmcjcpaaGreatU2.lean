/- The engine, part 11b: reading and writing vectors. Own work; no condition. -/
import Derived.KernelRfl
import Derived.Deep.DeepAppendWide
import Derived.Test.YtkkccchkmcjcpaaGreatU1
set_option linter.defProp false
set_option linter.unusedVariables false
set_option linter.unusedSimpArgs false
set_option linter.unnecessarySimpa false
namespace Go.El
open Go Go.RowKit
section
variable{P:Program}{tt:TT}
def K7(tt:TT)(st:St)(t id:Nat)(i:AV):Option (AV×Pr):=match ao id st.mem,i with
 |some (.vec _ T xs),.c (.I _ k)=>if wO tt t T.n then some (.c (.Y id T.n k.toNat 0),.and (.le 0 k) (.lt k xs.length))else none
 |_,_=>none
def ahN(aT:cM P tt=true){ops:Array Oper}{i:Nat}{o:Oper}{d:Nat}(ho:ops[i]? =some o)(hg:o.guard=none)(hd:o.dst=some d){n:Nat}(aV:d<n){t:TypeId}{x y:Operand}(ck:o.op= .indexAddr t x y)
  {st:St} {id:Nat} {vy v:AV} {p:Pr} (hx:st.ev x=some (.c (.X id))) (hy:st.ev y=some vy) (he:K7 tt st t id vy=some (v,p)) (hp:p) (new:Nat):
  mA P n ops i (dU st x++dU st y++g7 st [id]) [(.s d,some (.v v))] new:=by
 refine ve ho hg hd aV _ v new ?_
 intro F known σ g W a aJ bw
 have lN:a.eval x=g.γ id:=gI aJ st x _ hx (λkx aS=>bw kx jw)
 have pJ:=gI aJ st y vy hy (λkx aS=>bw kx jw)
 have oM:=vd aJ st x _ hx (λkx aS=>bw kx jw)
 unfold K7 at he
 split at he
 ·rename_i E T xs k' k hl;split at he
  ·rename_i dh;simp only[aO,cE]at he;obtain⟨rfl,rfl⟩:=he;have hσ:σ (.m id)=some (.b (.vec E T xs)):=bw (.m id,.b (.vec E T xs)) uR;obtain⟨e,i',mZ,hi,hs⟩:=D7 aT dh;have Ql:a.eval y= .int k' k:=pJ;rcases aJ.df id _ hσ with⟨_,h0⟩|⟨b,cap,vs,hγ,_⟩
   ·subst h0;simp[Pr.h]at hp;omega
   ·refine⟨λj hj=>oM j (by simpa[AV.aD,C.aD]using hj),.pointer (some ⟨b,k.toNat*T.n,none⟩),?_,b,xs.length,cap,hγ,by simp⟩;have lM:execOp a.eval o=(do pure (.value (←Instr.indexAt t (a.eval x) (a.eval y)))):=zj;rw[lM,lN,hγ,Ql];have sV:(0≤k∧k<(xs.length:Int)):=hp;simp only[Instr.indexAt,asIntOf,Sem.run_bind,run_underlying mZ,Result.andThen];simp[sV,run_sizeOf hi,hs,qt]
  ·simp at he
 ·simp at he
def Qm(tt:TT)(st:St)(t id off len:Nat)(i:AV):Option (AV×Pr):=match ao id st.mem,i with
 |some (.vec _ T _),.c (.I _ k)=>if T.n=1∧wO tt t 1=true then some (.c (.Y id 1 (off+k.toNat) 0),.and (.le 0 k) (.lt k len))else none
 |_,_=>none
def ahO(aT:cM P tt=true){ops:Array Oper}{i:Nat}{o:Oper}{d:Nat}(ho:ops[i]? =some o)(hg:o.guard=none)(hd:o.dst=some d){n:Nat}(aV:d<n){t:TypeId}{x y:Operand}(ck:o.op= .indexAddr t x y)
  {st:St} {id off len:Nat} {vy v:AV} {p:Pr} (hx:st.ev x=some (.c (.W id off len))) (hy:st.ev y=some vy) (he:Qm tt st t id off len vy=some (v,p)) (hp:p) (new:Nat):
  mA P n ops i (dU st x++dU st y++g7 st [id]) [(.s d,some (.v v))] new:=by
 refine ve ho hg hd aV _ v new ?_
 intro F known σ g W a aJ bw
 obtain⟨b0,c0,eB,lN,_⟩:=gI aJ st x _ hx (λkx aS=>bw kx jw)
 have pJ:=gI aJ st y vy hy (λkx aS=>bw kx jw)
 have oM:=vd aJ st x _ hx (λkx aS=>bw kx jw)
 unfold Qm at he
 split at he
 ·rename_i E T xs k' k hl;split at he
  ·rename_i dh;simp only[aO,cE]at he;obtain⟨rfl,rfl⟩:=he;have hσ:σ (.m id)=some (.b (.vec E T xs)):=bw (.m id,.b (.vec E T xs)) uR;obtain⟨e,i',mZ,hi,hs⟩:=D7 aT dh.2;have Ql:a.eval y= .int k' k:=pJ;rcases aJ.df id _ hσ with⟨hγ,_⟩|⟨b,cap,vs,hγ,_⟩
   ·rw[hγ]at eB;simp[cQ]at eB
   ·rw[hγ]at eB;simp only[cQ,aO]at eB;subst eB;refine⟨λj hj=>oM j (by simpa[AV.aD,C.aD]using hj),.pointer (some ⟨b,off+k.toNat,none⟩),?_,b,xs.length,cap,hγ,by simp⟩;have lM:execOp a.eval o=(do pure (.value (←Instr.indexAt t (a.eval x) (a.eval y)))):=zj;rw[lM,lN,Ql];have sV:(0≤k∧k<(len:Int)):=hp;simp only[Instr.indexAt,asIntOf,Sem.run_bind,run_underlying mZ,Result.andThen];simp[sV,run_sizeOf hi,hs,qt]
  ·simp at he
 ·simp at he
def Ee(tt:TT)(st:St)(t id:Nat):Option AV:=match ao id st.mem,ao t tt with
 |some (.vec _ _ xs),some ti=>(match ti.kind with| .sl _=>some (.c (.I .i64 xs.length))|_=>none)
 |_,_=>none
def ahP(aT:cM P tt=true){ops:Array Oper}{i:Nat}{o:Oper}{d:Nat}(ho:ops[i]? =some o)(hg:o.guard=none)(hd:o.dst=some d){n:Nat}(aV:d<n){t:TypeId}{x:Operand}(ck:o.op= .call ⟨.builtin .len,#[x],#[t]⟩)
  {st:St} {id:Nat} {v:AV} (hx:st.ev x=some (.c (.X id))) (he:Ee tt st t id=some v) (new:Nat):
  mA P n ops i (dU st x++g7 st [id]) [(.s d,some (.v v))] new:=by
 refine ve ho hg hd aV _ v new ?_
 intro F known σ g W a aJ bw
 have lN:a.eval x=g.γ id:=gI aJ st x _ hx (λkx aS=>bw kx jw)
 unfold Ee at he
 split at he
 ·rename_i E T xs ti hl ht;split at he
  ·rename_i e hk;simp only[aO]at he;subst he;have hσ:σ (.m id)=some (.b (.vec E T xs)):=bw (.m id,.b (.vec E T xs)) uR;have h2:=(gR aT ht).kind;rw[hk]at h2;refine⟨by simp[AV.aD,C.aD],.int .i64 xs.length,?_,ae⟩;rw[execOp,ck];rcases aJ.df id _ hσ with⟨hγ,h0⟩|⟨b,cap,vs,hγ,_⟩
   ·subst h0;simp[resolve,invoke,builtin,Builtin.len_,lN,hγ,run_underlying h2,goInt,Sem.run,pure]
   ·simp[resolve,invoke,builtin,Builtin.len_,lN,hγ,run_underlying h2,goInt,Sem.run,pure]
  ·simp at he
 ·simp at he
def Hi(T:ET):List C→Option T.den:=match T with
 | .int k=>λcs=>(match cs with|[.I k' n]=>if k=k' then some n else none|_=>none)
 | .bool=>λcs=>(match cs with|[.B b]=>some b|_=>none)
 |_=>λ_=>none
def ahQ{T:ET}{cs:List C}{x:T.den}(h:Hi T cs=some x):cs=av T x:=by
 cases T with
 |int k=>
  simp only[Hi]at h
  split at h
  ·split at h
   ·rename_i e;subst e;simp at h;subst h;rfl
   ·simp at h
  ·simp at h
 |bool=>
  simp only[Hi]at h
  split at h
  ·simp at h;subst h;rfl
  ·simp at h
 |_=>simp[Hi]at h
def Ef:∀(T:ET)(x:T.den),∀c∈av T x,rO c=true
 | .int _,_,c,h=>by simp[av]at h;subst h;rfl
 | .bool,_,c,h=>by simp[av]at h;subst h;rfl
 | .z,_,c,h=>by simp[av]at h;rcases h with rfl|rfl<;>rfl
 | .q,_,c,h=>by simp[av]at h;rcases h with rfl|rfl|rfl|rfl<;>rfl
 | .sl _,_,c,h=>by simp[av]at h;subst h;rfl
 | .pr A B,x,c,h=>by
  simp only[av,b6]at h;rcases h with h|h
  ·exact Ef A _ c h
  ·exact Ef B _ c h
def ahR{α:Type}(vs us:List α)(n i j:Nat)(hl:us.length=n)(hle:(i+1)*n≤vs.length)(aR:i≠j):((dG vs us (i*n)).drop (j*n)).take n=(vs.drop (j*n)).take n:=by
 have hi:(i+1)*n=i*n+n:=by rw[fV,jb]
 apply List.ext_getElem?;intro k;rw[Pp,Pp];split
 ·rename_i hk;rw[tM,tM];unfold dG;rcases wI j i with D1|D1
  ·have h1:(j+1)*n≤i*n:=eJ _ D1;rw[fV,jb]at h1;rw[np,Gt cT,Du af]
  ·have h1:(i+1)*n≤j*n:=eJ _ af;rw[zu cT,tM];simp only[kA,fI];congr 1;omega
 ·rfl
def ahS{α:Type}(vs us:List α)(n i:Nat)(hl:us.length=n)(hle:(i+1)*n≤vs.length):((dG vs us (i*n)).drop (i*n)).take n=us:=by
 have hi:(i+1)*n=i*n+n:=by rw[fV,jb]
 unfold dG;have:(vs.take (i*n)).length=i*n:=cT;rw[np,Kl af,Kt af,wH,Bc af,lI af]
def XC(aT:cM P tt=true){ops:Array Oper}{i:Nat}{o:Oper}(ho:ops[i]? =some o)(hg:o.guard=none)(hd:o.dst=none){n:Nat}{t:TypeId}{x y:Operand}(ck:o.op= .store t x y)
  {st:St} {id m k:Nat} {E:TypeId} {T:ET} {xs:List T.den} {vy:AV} (hx:st.ev x=some (.c (.Y id m k 0))) (hy:st.ev y=some vy) (hl:ao id st.mem=some (.vec E T xs)) (hm:T.n=m) {ag:Bool} (ki:qv tt t=some (m,ag)) {e:T.den} (dQ:js vy=some (av T e)) (hk:k<xs.length) (new:Nat):
  mA P n ops i (dU st x++dU st y++g7 st [id]) [(.m id,some (.b (.vec E T (xs.set k e))))] new:=by
 intro F gk Q known σ g W a K dX aJ bw hK
 have lN:=gI aJ st x _ hx (λkx aS=>bw kx jw)
 have pJ:=gI aJ st y vy hy (λkx aS=>bw kx jw)
 have hσ:σ (.m id)=some (.b (.vec E T xs)):=bw (.m id,.b (.vec E T xs)) uR
 obtain⟨b',l',c',fy,hv⟩:=lN
 rcases aJ.df id _ hσ with⟨_,h0⟩|⟨b,cap,vs,hγ,hh,kS,hle,hlen,hr,hN,hz⟩
 ·subst h0;simp at hk
 rw[hγ]at fy
 simp only[Value.slice.injEq,aO,Addr.mk.injEq,and_true]at fy
 obtain⟨rfl,_,_⟩:=fy
 obtain⟨ws,lj,sT⟩:=K5 dQ pJ (Ef T e)
 have XD:dm g.H T e ws:=zK T e ws sT
 have m6:ws.length=T.n:=dm.length T _ _ XD
 obtain⟨_,⟨ti,fA,XA⟩,_⟩:=G7 aT ki
 have pG:(k+1)*T.n≤vs.length:=by rw[kS];exact eJ _ af
 have gT:(k+1)*T.n=k*T.n+T.n:=by rw[fV,jb]
 subst hm
 have b7:(Instr.storeAt t (a.eval x) (a.eval y)).run P W= .ok () (jr W b (dG vs ws (k*T.n)) E):=by rw[hv];simp only[Instr.storeAt,Instr.sureAddr,storeVar,Sem.run_bind,Sem.run_pure,Result.andThen,run_sizeOf fA,lj,kg];have:¬(ws.toArray.size≠ti.size):=cT;simp only[this,cV];have:=Ec (P:=P) b ws W vs (k*T.n) 0 hh af (sT.one (Ef T e));simp only[kg]at this;simpa using this
 unfold wpOp
 simp only[ho,Region.wanted,hg,cP]
 refine .inl ?_
 unfold Oper.wp
 have hex:(execOp a.eval o).run P W= .ok .skip (jr W b (dG vs ws (k*T.n)) E):=by rw[execOp,ck];simp[b7,Sem.run,pure]
 rw[hex]
 simp only[Oper.upon,hd,Act.put]
 have hb:b<W.heap.size:=(jU.1 hh).1
 refine hK g _ a (aJ.step (chg:=λj=>j=id) (g':=g) ⟨⟨cF.refl _,λ_ _=>rfl⟩,λ_ _ _=>rfl,He aJ.sub hz,by simp[jr],?_,ae,ae,ae⟩ _ new dX ae aJ.defers (λ_ _=>rfl) ?_ ?_ ?_ ?_ ?_)
 ·intro k' dx aR;have:b≠k':=λe=>aR id ae (by rw[hγ,e];rfl)
  exact D9 this
 ·intro j hj;subst hj;exact⟨by simp[bc],_,hσ⟩
 ·intro t' v' ht;simp[bc]at ht
 ·intro j bk hj;simp only[bc]at hj;split at hj
  ·rename_i e';simp only[Key.m.injEq]at e';subst e';simp only[aO,Info.b.injEq]at hj;subst hj;refine⟨.inr ⟨b,cap,dG vs ws (k*T.n),by simpa using hγ,D8 hb,?_,by simpa using hle,by simpa using hlen,λj hj=>?_,hN,hz⟩,.inl ⟨aJ.fF _ _ hσ,_,hσ⟩⟩
   ·rw[Ea _ _ _ af];exact kS
   ·simp only[gO]at hj;rw[List.getElem_set];split
    ·rename_i e';subst e';rw[ahS vs ws T.n k m6 pG];exact XD
    ·rename_i e';rw[ahR vs ws T.n k j m6 pG e'];exact hr j hj
  ·simp at hj
 ·intro k' z g8;simp only[bc]at g8;split at g8
  ·simp only[aO]at g8;subst g8;intro j hj;simp[Info.aD,aK.aD]at hj
  ·simp at g8
 ·intro j z g8;simp only[bc]at g8;split at g8
  ·rename_i e';simp only[Key.m.injEq]at e';subst e';exact .inl (aJ.fF _ _ hσ)
  ·simp at g8
end
section
variable{P:Program}{tt:TT}{n:Nat}
def BG(pl:List (Nat×Nat))(st:St):List C→List (Nat×Operand)→Option (List C)
 |cs,[]=>some cs
 |cs,(i,x)::r=>(match pl[i]?,st.ev x with
  |some (off,sz),some v=>(match js v with
   |some us=>if us.length=sz∧off+sz≤cs.length∧us.all rO=true then BG pl st (dG cs us off) r else none
   |none=>none)
  |_,_=>none)
def ahT(us:List Value):∀(vs:List Value)(off k:Nat),off+k+us.length≤vs.length→(us.zipIdx k).foldl (λ(cs:Array Value)(p:Value×Nat)=>cs.setIfInBounds (off+p.2) p.1) vs.toArray=(dG vs us (off+k)).toArray:=by
 induction us with
 |nil=>intro vs off k _;simp[dG]
 |cons u us ih=>
  intro vs off k h
  simp only[fv]at h
  simp only[List.zipIdx_cons,KE]
  have:vs.toArray.setIfInBounds (off+k) u=(vs.set (off+k) u).toArray:=be
  rw[this,ih (vs.set (off+k) u) off (k+1) cT]
  rw[show off+(k+1)=off+k+1 by omega,Xy _ _ _ _ af]
def K8{F:de}{known:Nat→Prop}{σ:Kn}{g:Gh}{W:World}{a:Act}(h:bJ F known σ g W a)(st:St)(pl:List (Nat×Nat))(place:Nat→Option (Nat×Nat))(qy:∀i x,pl[i]? =some x→place i=some x):
  ∀(parts:List (Nat×Operand))(cs Eg:List C)(vs:List Value),BG pl st cs parts=some Eg→bU g cs vs→(∀p∈parts,∀kx∈dU st p.2,σ kx.1=some kx.2)→(∀id∈cD cs,known id)→
   ∃us:List Value,Instr.fill place vs.toArray (parts.map λp=>(p.1,a.eval p.2))=some us.toArray∧bU g Eg us∧us.length=vs.length∧∀id∈cD Eg,known id
 |[],cs,Eg,vs,hf,hr,_,hm=>by simp only[BG,aO]at hf;subst hf;exact⟨vs,ae,hr,ae,hm⟩
 | (i,x)::parts,cs,Eg,vs,hf,hr,bw,hm=>by
  simp only[BG]at hf;split at hf
  ·rename_i off sz v hp hv;split at hf
   ·rename_i us jc;split at hf
    ·rename_i sV;obtain⟨h1,h2,h3⟩:=sV;have bW:=gI h st x v hv (bw (i,x) be);have zX:=vd h st x v hv (bw (i,x) be);obtain⟨ws,lj,sT⟩:=K5 jc bW (λc hc=>wG.1 h3 c hc);have BH:=hr.length;have qA:=sT.length;have ahU:∀id∈cD (dG cs us off),known id:=by
      intro id al;rcases Qj _ _ _ id al with h|h
      ·exact hm id h
      ·refine zX id ?_;cases v with
       |c q=>simp only[js,aO]at jc;subst jc;simpa[cD,AV.aD]using h
       |a q=>simp only[js,aO]at jc;subst jc;exact h
       |t q=>simp[js]at jc
     obtain⟨zs,Hj,wQ,Qn,hz4⟩:=K8 h st pl place qy parts (dG cs us off) Eg (dG vs ws off) hf (hr.dG sT off) (λp hp=>bw p (by simp[hp])) ahU;refine⟨zs,?_,wQ,by rw[Qn,Ea _ _ _ af],hz4⟩;simp only[jL,Instr.fill,qy i _ hp,lj];have hc:¬((ws.toArray.size≠sz||decide (off+ws.toArray.size>vs.toArray.size))=true):=by simp;omega
     rw[aq (by simpa using hc)];have:=ahT ws vs off 0 af;simp only[kg]at this;have e:ws.toArray.zipIdx.foldl (λ(cs:Array Value)(p:Value×Nat)=>cs.setIfInBounds (off+p.2) p.1) vs.toArray=(dG vs ws off).toArray:=by rw[←this];simp
     rw[←Hj];congr 1
    ·simp at hf
   ·simp at hf
  ·simp at hf
def K9(ti:TI):List (Nat×Nat):=ti.fields.map λf=>(f.1,f.2.1)
def Qo(tt:TT)(st:St)(t:Nat)(parts:List (Nat×Operand)):Option AV:=match ao t tt with
 |some ti=>(match ti.kind with
  | .st=>(match BG (K9 ti) st (ti.zero.map ZV.sU) parts with|some cs=>some (.a cs)|none=>none)
  |_=>none)
 |none=>none
def La(zs:List ZV):cD (zs.map ZV.sU)=[]:=by
 induction zs with
 |nil=>rfl
 |cons z zs ih=>simp only[jL,cD,ih];cases z<;>rfl
def ahW(aT:True){ti:TI}{fs:Array Field}(vf:tT P ti.fields fs.toList=true)(W:World):∃oN:Array (Nat×Nat),(fs.mapM λf=>(do pure (f.offset,←sizeOf f.type):Go.Sem (Nat×Nat))).run P W= .ok oN W∧∀(i:Nat)(x:Nat×Nat),(K9 ti)[i]? =some x→oN[i]? =some x:=by
 have key:∀(l:List (Nat×Nat×Bool))(fs:List Field),tT P l fs=true→(fs.mapM λf=>(do pure (f.offset,←sizeOf f.type):Go.Sem (Nat×Nat))).run P W= .ok (l.map λf=>(f.1,f.2.1)) W:=by
  intro l;induction l with
  |nil=>intro fs h;cases fs with
   |nil=>simp[pure]
   |cons f fs=>simp[tT]at h
  |cons p l ih=>
   intro fs h
   obtain⟨off,sz,ag⟩:=p
   cases fs with
   |nil=>simp[tT]at h
   |cons f fs=>
    obtain⟨f',Lb,e1,⟨i,hi,hs⟩,_⟩:=KZ h (k:=0) ae
    simp only[Bf,aO]at Lb
    subst Lb
    simp only[tT,eX]at h
    have:=ih fs h.2
    rw[List.mapM_cons]
    simp only[Sem.run_bind,run_sizeOf hi,Result.andThen,Sem.run_pure,this,hs,e1,jL]
 refine⟨(K9 ti).toArray,?_,λi x h=>by simpa using h⟩;have hm:fs.mapM (λf=>(do pure (f.offset,←sizeOf f.type):Go.Sem (Nat×Nat)))=Functor.map List.toArray (fs.toList.mapM (λf=>(do pure (f.offset,←sizeOf f.type):Go.Sem (Nat×Nat)))):=by simp[Array.mapM_eq_mapM_toList]
 rw[hm];simp only[map_eq_pure_bind,Sem.run_bind,key ti.fields fs.toList vf,Result.andThen];rfl
def ahX(aT:cM P tt=true){ops:Array Oper}{i:Nat}{o:Oper}{d:Nat}(ho:ops[i]? =some o)(hg:o.guard=none)(hd:o.dst=some d){n:Nat}(aV:d<n){t:TypeId}{parts:Array (Nat×Operand)}(ck:o.op= .build t parts)
  {st:St} {v:AV} (hv:Qo tt st t parts.toList=some v) (new:Nat):mA P n ops i (pE st o.op) [(.s d,some (.v v))] new:=by
 refine ve ho hg hd aV _ v new ?_
 intro F known σ g W a aJ bw
 unfold Qo at hv
 split at hv
 ·rename_i ti fA;split at hv
  ·rename_i hk;split at hv
   ·rename_i cs dQ;simp only[aO]at hv;subst hv;have h2:=(gR aT fA).kind;rw[hk]at h2;obtain⟨fs,hu,vf⟩:=h2;obtain⟨inf,lO,_,_,z,hz,qw⟩:=(gR aT fA).info;obtain⟨oN,ahY,Eh⟩:=ahW (P:=P) ah vf W;obtain⟨us,tW,nw,hu3,Lc⟩:=K8 aJ st (K9 ti) (oN[·]?) Eh parts.toList (ti.zero.map ZV.sU) cs (ti.zero.map ZV.gj) dQ (Ed g _) (λp hp kx aS=>bw kx (by rw[ck];refine jK.2 ⟨p.2,?_,aS⟩;simp only[Op.operands];simp only[nW];exact⟨p,hp,ae⟩)) (by rw[La];simp);refine⟨Lc,.agg us.toArray,?_,us,ae,nw⟩;have vg:z.cells=(ti.zero.map ZV.gj).toArray:=Gm;have lM:execOp a.eval o=(do pure (.value (←Instr.build t (parts.map λ(i,x)=>(i,a.eval x))))):=zj;have jM:(parts.map λ(i,x)=>(i,a.eval x)).toList=parts.toList.map λp=>(p.1,a.eval p.2):=be
    have zY:(zeroValue t).run P W= .ok z W:=by simp[zeroValue,typeInfo,lO,hz]
    have hb:(Instr.build t (parts.map λ(i,x)=>(i,a.eval x))).run P W= .ok (.agg us.toArray) W:=by unfold Instr.build;rw[Sem.run_bind,zY];simp only[Result.andThen];rw[Sem.run_bind,run_underlying hu];simp only[Result.andThen];rw[Sem.run_bind,ahY];simp only[Result.andThen,jM,vg,tW];rfl
    rw[lM,Sem.run_bind,hb];rfl
   ·simp at hv
  ·simp at hv
 ·simp at hv
end
section
variable{P:Program}{tt:TT}
def gn(st:St)(x:Operand):∀kx∈dU st x,st.kn kx.1=some kx.2:=by
 intro kx h;cases x with
 |tmp t=>
  simp only[dU]at h
  split at h
  ·rename_i v hv;simp only[jJ]at h;subst h;simp[St.kn,hv]
  ·simp at h
 |_=>simp[dU]at h
def rQ(st:St)(ids:List Nat):∀kx∈g7 st ids,st.kn kx.1=some kx.2:=by
 intro kx h;obtain⟨id,_,h⟩:=jK.1 h;split at h
 ·rename_i b hb;simp only[jJ]at h;subst h;simp[St.kn,hb]
 ·simp at h
def Ei(st:St)(op:Op):∀kx∈pE st op,st.kn kx.1=some kx.2:=by intro kx h;obtain⟨x,_,h⟩:=jK.1 h;exact gn st x kx h
def St.put(st:St)(d:Nat)(x:AV):St:={st with sl:=(d,x)::st.sl}
def St.pm(st:St)(id:Nat)(b:aK):St:={st with mem:=(id,b)::st.mem}
def wR{α:Type}(t:Nat):List (Nat×α)→List (Nat×α)
 |[]=>[]
 | (k,x)::r=>if k=t then wR t r else(k,x)::wR t r
def Hk{α:Type}(t k:Nat):∀l:List (Nat×α),ao k (wR t l)=if t=k then none else ao k l
 |[]=>by simp[wR,ao]
 | (j,x)::r=>by
  simp only[wR];split
  ·rename_i e;subst e;rw[Hk j k r];split
   ·rfl
   ·rename_i h;simp[ao,h]
  ·rename_i e;simp only[ao];split
   ·rename_i e2;subst e2;rw[aq (λh=>e h.symm)]
   ·exact Hk t k r
def n6(st:St)(d:Nat)(x:AV):(st.put d x).kn=dI st.kn [(.s d,some (.v x))]:=by
 funext k;cases k with
 |s t=>
  by_cases e:d=t
  ·simp[St.kn,St.put,ao,dI,bc,e]
  ·simp[St.kn,St.put,ao,dI,bc,e]
 |m id=>simp[St.kn,St.put,dI,bc]
def Ld(st:St)(d:Nat)(x:aK):(st.pm d x).kn=dI st.kn [(.m d,some (.b x))]:=by
 funext k;cases k with
 |s t=>simp[St.kn,St.pm,dI,bc]
 |m id=>
  by_cases e:d=id
  ·simp[St.kn,St.pm,ao,dI,bc,e]
  ·simp[St.kn,St.pm,ao,dI,bc,e]
def BI(st:St)(d id:Nat)(x:AV)(b:aK):((st.pm id b).put d x).kn=dI st.kn [(.s d,some (.v x)),(.m id,some (.b b))]:=by
 funext k;cases k with
 |s t=>
  by_cases e:d=t
  ·simp[St.kn,St.put,St.pm,ao,dI,bc,e]
  ·simp[St.kn,St.put,St.pm,ao,dI,bc,e]
 |m j=>
  by_cases e:id=j
  ·simp[St.kn,St.put,St.pm,ao,dI,bc,e]
  ·simp[St.kn,St.put,St.pm,ao,dI,bc,e]
abbrev Ks:=List Key×List Key
def cH:List Operand→List Key
 |[]=>[]
 | .tmp t::r=> .s t::cH r
 |_::r=>cH r
def fB:List Nat→List Key
 |[]=>[]
 |id::r=> .m id::fB r
def fX(st:St):∀(xs:List Operand),∀k∈dT (xs.flatMap (dU st)),k∈cH xs
 |[],k,h=>by simp[dT]at h
 |x::xs,k,h=>by
  simp only[dT,gN,eh,b6]at h;rcases h with h|h
  ·cases x with
   |tmp t=>
    simp only[dU]at h
    split at h
    ·simp at h;subst h;simp[cH]
    ·simp at h
   |_=>simp[dU]at h
  ·have:=fX st xs k h;cases x<;>simp[cH,this]
def qC(st:St):∀(ids:List Nat),∀k∈dT (g7 st ids),k∈fB ids
 |[],k,h=>by simp[dT,g7]at h
 |id::ids,k,h=>by
  simp only[dT,g7,gN,eh,b6]at h;rcases h with h|h
  ·split at h
   ·simp at h;subst h;simp[fB]
   ·simp at h
  ·have:=qC st ids k h;simp[fB,this]
def zZ(tt:TT)(n new:Nat)(dst:Option Nat)(op:Op):St→Option (St×Pr×Ks)
 |⟨sl,mem,nx,gd⟩=>match dst,op with
 |some d,.load t x=>if d<n then(match St.ev ⟨sl,mem,nx,gd⟩ x with
   |some v=>(match G9 tt ⟨sl,mem,nx,gd⟩ t v with
    |some (y,p,ids)=>some (⟨(d,y)::sl,mem,nx,gd⟩,p,(cH [x]++fB ids,[.s d]))
    |none=>none)
   |none=>none)else none
 |none,.store t x y=>(match St.ev ⟨sl,mem,nx,gd⟩ x,St.ev ⟨sl,mem,nx,gd⟩ y with
   |some (.c (.Y id m k 0)),some vy=>(match ao id mem,qv tt t,js vy with
    |some (.vec E T xs),some (sz,_),some cs=>if T.n=m∧sz=m then(match Hi T cs with
     |some e=>some (⟨sl,(id,.vec E T (xs.set k e))::mem,nx,gd⟩,.KW k xs.length,(cH [x,y]++fB [id],[.m id]))
     |none=>none)else none
    |_,_,_=>none)
   |some vx,some vy=>(match Qi tt ⟨sl,mem,nx,gd⟩ t vx vy with
    |some (id,bk)=>some (⟨sl,(id,bk)::mem,nx,gd⟩,.t,(cH [x,y]++fB [id],[.m id]))
    |none=>none)
   |_,_=>none)
 |some d,.indexAddr t x y=>if d<n then(match St.ev ⟨sl,mem,nx,gd⟩ x,St.ev ⟨sl,mem,nx,gd⟩ y with
   |some (.c (.X id)),some vy=>(match K7 tt ⟨sl,mem,nx,gd⟩ t id vy with
    |some (v,p)=>some (⟨(d,v)::sl,mem,nx,gd⟩,p,(cH [x,y]++fB [id],[.s d]))
    |none=>none)
   |some (.c (.W id off len)),some vy=>(match Qm tt ⟨sl,mem,nx,gd⟩ t id off len vy with
    |some (v,p)=>some (⟨(d,v)::sl,mem,nx,gd⟩,p,(cH [x,y]++fB [id],[.s d]))
    |none=>none)
   |some _,some _=>(match GX tt ⟨sl,mem,nx,gd⟩ (.indexAddr t x y)with
    |some (v,p)=>some (⟨(d,v)::sl,mem,nx,gd⟩,p,(cH [x,y],[.s d]))
    |none=>none)
   |_,_=>none)else none
 |some d,.build t parts=>if d<n then(match Qo tt ⟨sl,mem,nx,gd⟩ t parts.toList with
   |some v=>some (⟨(d,v)::sl,mem,nx,gd⟩,.t,(cH (Op.build t parts).operands.toList,[.s d]))
   |none=>none)else none
 |some d,.call ⟨.builtin .len,args,dn⟩=>if d<n then(match args.toList,dn.toList with
   |[x],[t]=>(match St.ev ⟨sl,mem,nx,gd⟩ x with
    |some (.c (.X id))=>(match Ee tt ⟨sl,mem,nx,gd⟩ t id with
     |some v=>some (⟨(d,v)::sl,mem,nx,gd⟩,.t,(cH [x]++fB [id],[.s d]))
     |none=>none)
    |some v=>(match K2 tt t v with
     |some u=>some (⟨(d,u)::sl,mem,nx,gd⟩,.t,(cH [x],[.s d]))
     |none=>none)
    |none=>none)
   |_,_=>none)else none
 |some d,.box E x=>if d<n then(match St.ev ⟨sl,mem,nx,gd⟩ x with
   |some v=>(match js v with
    |some cs=>if cs.all rO=true then some (⟨(d,.c (.P new 0))::sl,(new,.box E 0 cs)::mem,nx,gd⟩,.t,(cH [x],[.s d,.m new]))else none
    |none=>none)
   |none=>none)else none
 |some d,.alloc E=>if d<n then(match ao E tt with
   |some ti=>some (⟨(d,.c (.P new 0))::sl,(new,.box E 0 (ti.zero.map ZV.sU))::mem,nx,gd⟩,.t,([],[.s d,.m new]))
   |none=>none)else none
 |some d,op=>if d<n then(match GX tt ⟨sl,mem,nx,gd⟩ op with
   |some (x,p)=>some (⟨(d,x)::sl,mem,nx,gd⟩,p,(cH op.operands.toList,[.s d]))
   |none=>none)else none
 |none,_=>none
def ll(P:Program)(n:Nat)(ops:Array Oper)(i:Nat)(st st':St)(new:Nat)(ks:Ks):Prop:=
 ∃rd wr,mA P n ops i rd wr new∧(∀kx∈rd,st.kn kx.1=some kx.2)∧st'.kn=dI st.kn wr∧(∀k∈dT rd,k∈ks.1)∧∀k∈fi wr,k∈ks.2
def XE(aT:cM P tt=true){n new:Nat}{ops:Array Oper}{i:Nat}{o:Oper}(ho:ops[i]? =some o)(hg:o.guard=none){st st':St}{p:Pr}{ks:Ks}
  (h:zZ tt n new o.dst o.op st=some (st',p,ks)) (hp:p):ll P n ops i st st' new ks:=by
 obtain⟨sl,mem,nx,gd⟩:=st
 simp only[zZ]at h
 split at h
 ·rename_i d t x hd ck;split at h
  ·rename_i aV;split at h
   ·rename_i v hv;split at h
    ·rename_i y q ids hl;simp only[aO,cE]at h;obtain⟨rfl,rfl,rfl⟩:=h;refine⟨_,_,ahE aT ho hg hd aV ck hv hl hp new,?_,n6 ⟨sl,mem,nx,gd⟩ d y,?_,λk hk=>by simpa[fi]using hk⟩
     ·intro kx aS;rcases b6.1 aS with h|h
      ·exact gn _ x kx h
      ·exact rQ _ ids kx h
     ·intro k hk;simp only[dT,eh,b6]at hk;rcases hk with h|h
      ·exact fS _ (fX ⟨sl,mem,nx,gd⟩ [x] k (by simpa[dT]using h))
      ·exact j9 _ (qC ⟨sl,mem,nx,gd⟩ ids k h)
    ·simp at h
   ·simp at h
  ·simp at h
 ·rename_i t x y hd ck;have XF:∀id k,k∈dT (dU ⟨sl,mem,nx,gd⟩ x++dU ⟨sl,mem,nx,gd⟩ y++g7 ⟨sl,mem,nx,gd⟩ [id])→k∈cH [x,y]++fB [id]:=by
   intro id k hk;simp only[dT,eh,b6]at hk;rcases hk with(h|h)|h
   ·exact fS _ (fX ⟨sl,mem,nx,gd⟩ [x,y] k zk)
   ·exact fS _ (fX ⟨sl,mem,nx,gd⟩ [x,y] k zm)
   ·exact j9 _ (qC ⟨sl,mem,nx,gd⟩ [id] k h)
  have XG:∀id,∀kx∈dU ⟨sl,mem,nx,gd⟩ x++dU ⟨sl,mem,nx,gd⟩ y++g7 ⟨sl,mem,nx,gd⟩ [id],St.kn ⟨sl,mem,nx,gd⟩ kx.1=some kx.2:=by
   intro id kx aS;rcases b6.1 aS with h|h
   ·rcases b6.1 h with h|h
    ·exact gn _ x kx h
    ·exact gn _ y kx h
   ·exact rQ _ [id] kx h
  split at h
  ·rename_i id m k vy hx hy;split at h
   ·rename_i E T xs sz ag cs hl ki dQ;split at h
    ·rename_i sV;split at h
     ·rename_i e he;simp only[aO,cE]at h;obtain⟨rfl,rfl,rfl⟩:=h;obtain⟨h1,h2⟩:=sV;subst h2;have ah0:=ahQ he;subst ah0;exact⟨_,_,XC aT ho hg hd ck hx hy hl h1 ki dQ hp new,XG id,Ld ⟨sl,mem,nx,gd⟩ id _,XF id,λk hk=>by simpa[fi]using hk⟩
     ·simp at h
    ·simp at h
   ·simp at h
  ·rename_i vx vy hx hy;split at h
   ·rename_i id bk hs;simp only[aO,cE]at h;obtain⟨rfl,rfl,rfl⟩:=h;exact⟨_,_,ahJ aT ho hg hd ck hx hy hs new,XG id,Ld ⟨sl,mem,nx,gd⟩ id bk,XF id,λk hk=>by simpa[fi]using hk⟩
   ·simp at h
  ·simp at h
 ·rename_i d t x y hd ck;split at h
  ·rename_i aV;split at h
   ·rename_i id vy hx hy;split at h
    ·rename_i v q he;simp only[aO,cE]at h;obtain⟨rfl,rfl,rfl⟩:=h;refine⟨_,_,ahN aT ho hg hd aV ck hx hy he hp new,?_,n6 ⟨sl,mem,nx,gd⟩ d _,?_,λk hk=>by simpa[fi]using hk⟩
     ·intro kx aS;rcases b6.1 aS with h|h
      ·rcases b6.1 h with h|h
       ·exact gn _ x kx h
       ·exact gn _ y kx h
      ·exact rQ _ [id] kx h
     ·intro k hk;simp only[dT,eh,b6]at hk;rcases hk with(h|h)|h
      ·exact fS _ (fX ⟨sl,mem,nx,gd⟩ [x,y] k zk)
      ·exact fS _ (fX ⟨sl,mem,nx,gd⟩ [x,y] k zm)
      ·exact j9 _ (qC ⟨sl,mem,nx,gd⟩ [id] k h)
    ·simp at h
   ·rename_i id off len vy hx hy;split at h
    ·rename_i v q he;simp only[aO,cE]at h;obtain⟨rfl,rfl,rfl⟩:=h;refine⟨_,_,ahO aT ho hg hd aV ck hx hy he hp new,?_,n6 ⟨sl,mem,nx,gd⟩ d _,?_,λk hk=>by simpa[fi]using hk⟩
     ·intro kx aS;rcases b6.1 aS with h|h
      ·rcases b6.1 h with h|h
       ·exact gn _ x kx h
       ·exact gn _ y kx h
      ·exact rQ _ [id] kx h
     ·intro k hk;simp only[dT,eh,b6]at hk;rcases hk with(h|h)|h
      ·exact fS _ (fX ⟨sl,mem,nx,gd⟩ [x,y] k zk)
      ·exact fS _ (fX ⟨sl,mem,nx,gd⟩ [x,y] k zm)
      ·exact j9 _ (qC ⟨sl,mem,nx,gd⟩ [id] k h)
    ·simp at h
   ·split at h
    ·rename_i v q hx;simp only[aO,cE]at h;obtain⟨rfl,rfl,rfl⟩:=h;refine⟨_,_,Qg aT ho hg hd aV (by rw[ck];exact hx) hp new,Ei _ _,n6 ⟨sl,mem,nx,gd⟩ _ _,λk hk=>?_,λk hk=>by simpa[fi]using hk⟩;rw[ck]at hk;exact fX ⟨sl,mem,nx,gd⟩ _ k hk
    ·simp at h
   ·simp at h
  ·simp at h
 ·rename_i d t parts hd ck;split at h
  ·rename_i aV;split at h
   ·rename_i v hv;simp only[aO,cE]at h;obtain⟨rfl,rfl,rfl⟩:=h;refine⟨_,_,ahX aT ho hg hd aV ck hv new,Ei _ _,n6 ⟨sl,mem,nx,gd⟩ _ _,λk hk=>?_,λk hk=>by simpa[fi]using hk⟩;rw[ck]at hk;exact fX ⟨sl,mem,nx,gd⟩ _ k hk
   ·simp at h
  ·simp at h
 ·rename_i d args dn hd ck;split at h
  ·rename_i aV;split at h
   ·rename_i x t ha ht;have kE:args= #[x]:=Ke;have G6:dn= #[t]:=Wh;subst kE G6;split at h
    ·rename_i id hx;split at h
     ·rename_i v he;simp only[aO,cE]at h;obtain⟨rfl,rfl,rfl⟩:=h;refine⟨_,_,ahP aT ho hg hd aV ck hx he new,?_,n6 ⟨sl,mem,nx,gd⟩ d _,?_,λk hk=>by simpa[fi]using hk⟩
      ·intro kx aS;rcases b6.1 aS with h|h
       ·exact gn _ x kx h
       ·exact rQ _ [id] kx h
      ·intro k hk;simp only[dT,eh,b6]at hk;rcases hk with h|h
       ·exact fS _ (fX ⟨sl,mem,nx,gd⟩ [x] k (by simpa[dT]using h))
       ·exact j9 _ (qC ⟨sl,mem,nx,gd⟩ [id] k h)
     ·simp at h
    ·rename_i v hx;split at h
     ·rename_i u hu;simp only[aO,cE]at h;obtain⟨rfl,rfl,rfl⟩:=h;refine⟨_,_,Qg aT ho hg hd aV (x:=u) (p:= .t) (st:=⟨sl,mem,nx,gd⟩) (by rw[ck];simp[GX,hx,hu]) ah new,Ei _ _,n6 ⟨sl,mem,nx,gd⟩ _ _,λk hk=>?_,λk hk=>by simpa[fi]using hk⟩;rw[ck]at hk;exact fX ⟨sl,mem,nx,gd⟩ [x] k hk
     ·simp at h
    ·simp at h
   ·simp at h
  ·simp at h
 ·rename_i d E x hd ck;split at h
  ·rename_i aV;split at h
   ·rename_i v hv;split at h
    ·rename_i cs dQ;split at h
     ·rename_i rP;simp only[aO,cE]at h;obtain⟨rfl,rfl,rfl⟩:=h;exact⟨_,_,ahL ho hg hd aV ck hv dQ rP new,gn _ x,BI ⟨sl,mem,nx,gd⟩ d new _ _,λk hk=>fX ⟨sl,mem,nx,gd⟩ [x] k (by simpa[dT]using hk),λk hk=>by simpa[fi]using hk⟩
     ·simp at h
    ·simp at h
   ·simp at h
  ·simp at h
 ·rename_i d E hd ck;split at h
  ·rename_i aV;split at h
   ·rename_i ti fA;simp only[aO,cE]at h;obtain⟨rfl,rfl,rfl⟩:=h;exact⟨_,_,ahM aT ho hg hd aV ck fA new,by simp,BI ⟨sl,mem,nx,gd⟩ d new _ _,by simp[dT],λk hk=>by simpa[fi]using hk⟩
   ·simp at h
  ·simp at h
 ·rename_i d _ hd _ _ _ _ _ _;split at h
  ·rename_i aV;split at h
   ·rename_i x q hx;simp only[aO,cE]at h;obtain⟨rfl,rfl,rfl⟩:=h;exact⟨_,_,Qg aT ho hg hd aV hx hp new,Ei _ _,n6 ⟨sl,mem,nx,gd⟩ _ x,λk hk=>fX ⟨sl,mem,nx,gd⟩ _ k hk,λk hk=>by simpa[fi]using hk⟩
   ·simp at h
  ·simp at h
 ·simp at h
def wS(opsL:List Oper)(j:Nat):Option Nat:=match opsL[j]? with
 |some o=>o.dst
 |none=>none
def Qp{ops:Array Oper}{j tg:Nat}(hj:wS ops.toList j=some tg){g:Gh}{a:Act}{b:Bool}(h2:bP g (.c (.B b)) (a.tmps.getD tg undef)):yielded ops a.tmps j=some b:=by
 have h3:a.tmps.getD tg undef= .bool b:=h2;have:(ops[j]?).bind (·.dst)=some tg:=by
  unfold wS at hj;rw[Gz]at hj;cases ho:ops[j]? with
  |none=>rw[ho]at hj;simp at hj
  |some o'=>rw[ho]at hj;simpa using hj
 unfold yielded;rw[this];rcases wI tg a.tmps.size with br|tR
 ·have:a.tmps[tg]? =some (.bool b):=by rw[WA br];rw[wy,WA br]at h3;simpa using h3
  simp[this]
 ·exfalso;rw[wy,Array.getElem?_eq_none tR]at h3;simp[undef]at h3
def Le{n new:Nat}{ops:Array Oper}{i:Nat}{o:Oper}(ho:ops[i]? =some o){j:Nat}{want b:Bool}(hg:o.guard=some (j,want)){tg:Nat}(hj:wS ops.toList j=some tg){st st':St}(hb:ao tg st.sl=some (.c (.B b)))(vi:b=want){ks:Ks}
  (h:ll P n (#[{o with guard:=none}]) 0 st st' new ks):ll P n ops i st st' new (.s tg::ks.1,ks.2):=by
 obtain⟨rd,wr,hs,bw,eS,gT,dR⟩:=h
 refine⟨(.s tg,.v (.c (.B b)))::rd,wr,?_,?_,eS,λk hk=>?_,dR⟩
 ·intro F gk Q known σ g W a K dX aJ hr hK;have h1:=hs F gk Q known σ g W a K dX aJ (λkx aS=>hr kx jw) hK;have h2:=aJ.gG tg (.c (.B b)) (hr (.s tg,.v (.c (.B b))) be);have hw:Region.wanted o (yielded ops a.tmps)=true:=by simp only[Region.wanted,hg,Qp hj h2,vi,beq_self_eq_true]
  unfold wpOp at h1⊢;simp only[ho,hw,cP];simp only[Ku,Bf,Region.wanted,cP]at h1;exact h1
 ·intro kx aS;rcases dC.1 aS with rfl|h
  ·simp[St.kn,hb]
  ·exact bw kx h
 ·simp only[dT,jL,dC]at hk;rcases hk with h|h
  ·simp[h]
  ·exact wB _ (gT k h)
def ah1{n new:Nat}{ops:Array Oper}{i:Nat}{o:Oper}(ho:ops[i]? =some o){j:Nat}{want b:Bool}(hg:o.guard=some (j,want)){tg:Nat}(hj:wS ops.toList j=some tg){st:St}(hb:ao tg st.sl=some (.c (.B b)))(vi:b= !want)
  {d:Nat} (hd:o.dst=some d):ll P n ops i st (st.put d (.c .any)) new ([.s tg],[.s d]):=by
 refine⟨[(.s tg,.v (.c (.B b)))],[(.s d,some (.v (.c .any)))],?_,?_,n6 st d _,λk hk=>by simpa[dT]using hk,λk hk=>by simpa[fi]using hk⟩
 ·intro F gk Q known σ g W a K dX aJ hr hK;have h2:=aJ.gG tg (.c (.B b)) (hr (.s tg,.v (.c (.B b))) be);have hw:Region.wanted o (yielded ops a.tmps)=false:=by simp only[Region.wanted,hg,Qp hj h2,vi];cases want<;>rfl
  unfold wpOp;simp only[ho,hw,mV,cV,hd];refine hK g W _ (aJ.step (chg:=λ_=>False) (g':=g) (W':=W) ⟨⟨cF.refl _,λ_ _=>rfl⟩,λ_ _ _=>rfl,aJ.sub,bD _,λ_ _ _=>rfl,ae,ae,ae⟩ _ new dX sC aJ.defers ?_ (λ_ h=>h.elim) ?_ ?_ ?_ ?_)
  ·intro t ht;have aR:d≠t:=tL;simp[Act.put,nT aR]
  ·intro t u ht;simp only[bc]at ht;split at ht
   ·simp only[aO,Info.v.injEq]at ht;subst ht;exact ah
   ·simp at ht
  ·intro id b ht;simp[bc]at ht
  ·intro k y ht;simp only[bc]at ht;split at ht
   ·simp only[aO]at ht;subst ht;intro id al;simp[Info.aD,AV.aD,C.aD]at al
   ·simp at ht
  ·intro id y ht;simp[bc]at ht
 ·intro kx aS;simp only[jJ]at aS;subst aS;simp[St.kn,hb]
def z5(tt:TT)(n new:Nat)(opsL:List Oper)(o:Oper)(st:St):Option (St×Pr×Ks):=match o.guard with
 |none=>zZ tt n new o.dst o.op st
 |some (j,want)=>(match wS opsL j with
  |some tg=>(match ao tg st.gd,ao tg st.sl with
   |some dec,some (.c (.B b))=>if dec=want then(match zZ tt n new o.dst o.op st with
     |some (st',p,ks)=>some (st',.an (.BB b want) p,(.s tg::ks.1,ks.2))
     |none=>none)
    else(match o.dst with
     |some d=>some (⟨(d,.c .any)::st.sl,st.mem,st.nx,st.gd⟩,.BB b (!want),([.s tg],[.s d]))
     |none=>none)
   |_,_=>none)
  |none=>none)
def XH(aT:cM P tt=true){n new:Nat}{ops:Array Oper}{i:Nat}{o:Oper}(ho:ops[i]? =some o){st st':St}{p:Pr}{ks:Ks}
  (h:z5 tt n new ops.toList o st=some (st',p,ks)) (hp:p):ll P n ops i st st' new ks:=by
 unfold z5 at h
 split at h
 ·rename_i hg;exact XE aT ho hg h hp
 ·rename_i j want hg;split at h
  ·rename_i tg hj;split at h
   ·rename_i dec b _ hb;split at h
    ·split at h
     ·rename_i as4 q cp hs;simp only[aO,cE]at h;obtain⟨rfl,rfl,rfl⟩:=h;have hp:=Pr.D3 hp;exact Le ho hg hj hb hp.1 (XE aT (o:={o with guard:=none}) be ae hs hp.2)
     ·simp at h
    ·split at h
     ·rename_i d hd;simp only[aO,cE]at h;obtain⟨rfl,rfl,rfl⟩:=h;exact ah1 ho hg hj hb hp hd
     ·simp at h
   ·simp at h
  ·simp at h
end
section
variable{P:Program}{tt:TT}
def mask(l:List Edge)(acc:List Nat):Nat:=l.foldl (λs e=>if Region.binds .any e then s|||2^e.on|||acc.getD e.on 0 else s) 0
def x9:List Oper→List Nat→List Nat
 |[],acc=>acc
 |o::os,acc=>x9 os (acc++[mask o.after.toList acc])
def Ej:List Oper→Nat→Bool
 |[],_=>true
 |o::os,i=>o.after.toList.all (λe=> !Region.binds .any e||decide (e.on<i))&&Ej os (i+1)
def Hl(a b:List Key):Bool:=a.any λk=>b.any λk'=>k=k'
def sW(a b:Ks):Bool:=Hl a.2 b.2||Hl a.2 b.1||Hl a.1 b.2
def BJ(m:Nat)(b:Ks):List Ks→Nat→Bool
 |[],_=>true
 |a::l,i=>(!sW a b||m.testBit i)&&BJ m b l (i+1)
def ya:List Nat→List Ks→List Ks→Bool
 |m::ms,b::bs,done=>BJ m b done 0&&ya ms bs (done++[b])
 |[],[],_=>true
 |_,_,_=>false
def tX(ops:List Oper)(ks:List Ks):Bool:=Ej ops 0&&ya (x9 ops []) ks []
def ah2{l:List Edge}{acc:List Nat}{j:Nat}(h:(mask l acc).testBit j=true):∃e∈l,Region.binds .any e=true∧(e.on=j∨(acc.getD e.on 0).testBit j=true):=by
 unfold mask at h;have key:∀(l:List Edge)(s:Nat),(l.foldl (λs e=>if Region.binds .any e then s|||2^e.on|||acc.getD e.on 0 else s) s).testBit j=true→
   s.testBit j=true∨∃e∈l,Region.binds .any e=true∧(e.on=j∨(acc.getD e.on 0).testBit j=true):=by
  intro l
  induction l with
  |nil=>intro s h;exact .inl h
  |cons e l ih=>
   intro s h
   simp only[KE]at h
   rcases ih _ h with h|⟨e',Qq,h1,h2⟩
   ·split at h
    ·rename_i hb;simp only[Nat.testBit_or,zz,Nat.testBit_two_pow,decide_eq_true_eq]at h;rcases h with(h|h)|h
     ·exact .inl h
     ·exact .inr ⟨e,by simp,hb,.inl h⟩
     ·exact .inr ⟨e,by simp,hb,.inr h⟩
    ·exact .inl h
   ·exact .inr ⟨e',by simp[Qq],h1,h2⟩
 rcases key l 0 h with h|h
 ·simp at h
 ·exact h
def XI{ops:Array Oper}:∀(os:List Oper)(acc:List Nat),ops.toList=ops.toList.take acc.length++os→acc.length+os.length=ops.size→
  (∀k(hk:k<acc.length) j,acc[k].testBit j=true→oL ops j k)→(x9 os acc).length=ops.size∧∀k(hk:k<(x9 os acc).length) j,(x9 os acc)[k].testBit j=true→oL ops j k
 |[],acc,_,hl,h=>by simp only[x9];exact⟨by simpa using hl,h⟩
 |o::os,acc,he,hl,h=>by
  have ho:ops[acc.length]? =some o:=by
   rw[←Gz,he,zu cT];simp only[fI];have:min acc.length ops.toList.length=acc.length:=by simp;simp at hl;omega
   rw[this];simp
  simp only[x9];refine XI os _ ?_ (by simp at hl⊢;omega) ?_
  ·have hlen:acc.length<ops.toList.length:=by simp;simp at hl;omega
   simp only[kA,fv,mr,eZ];rw[Kk hlen];have h2:ops.toList[acc.length]=o:=by have:=ho;rw[←Gz,cr hlen]at this;simpa using this
   rw[h2,np];exact he
  ·intro k hk j hj;rcases wI k acc.length with br|tR
   ·rw[zv br]at hj;exact h k br j hj
   ·have:k=acc.length:=by simp at hk;omega
    subst this;simp only[List.getElem_append_right (bD _),iw,xO]at hj;obtain⟨e,Qr,hb,pz⟩:=ah2 hj;have iA:e∈o.after:=by simpa using Qr
    rcases pz with e1|e1
    ·exact .one ho iA hb e1
    ·rcases wI e.on acc.length with h3|h3
     ·rw[aU,cr h3]at e1;exact .more ho iA hb ae (h e.on h3 j e1)
     ·rw[aU,nn h3]at e1;simp at e1
def XJ:∀(os:List Oper)(i:Nat),Ej os i=true→∀k o,os[k]? =some o→∀e∈o.after,Region.binds .any e=true→e.on<i+k
 |[],_,_,k,o,h=>by simp at h
 |o::os,i,hb,0,o',h=>by
  simp only[Bf,aO]at h;subst h;simp only[Ej,eX,wG,zz,KB,decide_eq_true_eq]at hb;intro e he yb;have:=hb.1 e (by simpa using he);rcases this with h|h
  ·rw[h]at yb;cases yb
  ·omega
 |o::os,i,hb,k+1,o',h=>by simp only[Dv]at h;simp only[Ej,eX]at hb;intro e he yb;have:=XJ os (i+1) hb.2 k o' h e he yb;omega
def XK{m:Nat}{b:Ks}:∀(l:List Ks)(i:Nat),BJ m b l i=true→∀k a,l[k]? =some a→sW a b=true→m.testBit (i+k)=true
 |[],_,_,k,a,h=>by simp at h
 |a::l,i,hb,0,a',h=>by
  simp only[Bf,aO]at h;subst h;simp only[BJ,eX,zz,KB]at hb;intro hc;rcases hb.1 with h|h
  ·rw[h]at hc;cases hc
  ·simpa using h
 |a::l,i,hb,k+1,a',h=>by simp only[Dv]at h;simp only[BJ,eX]at hb;intro hc;have:=XK l (i+1) hb.2 k a' h hc;rw[show i+(k+1)=i+1+k by omega];exact this
def XL:∀(ms:List Nat)(bs done:List Ks),ya ms bs done=true→∀j m b,ms[j]? =some m→bs[j]? =some b→∀i a,i<done.length+j→(done++bs)[i]? =some a→sW a b=true→m.testBit i=true
 |m::ms,b::bs,done,h,0,m',b',hm,hb=>by simp only[Bf,aO]at hm hb;subst hm hb;simp only[ya,eX]at h;intro i a hi ha hc;rw[Gt af]at ha;have:=XK done 0 h.1 i a ha hc;simpa using this
 |m::ms,b::bs,done,h,j+1,m',b',hm,hb=>by simp only[Dv]at hm hb;simp only[ya,eX]at h;intro i a hi ha hc;exact XL ms bs (done++[b]) h.2 j m' b' hm hb i a cT (by simpa using ha) hc
 |[],[],_,_,j,m,b,hm,_=>by simp at hm
 |[],_::_,_,h,_,_,_,_,_=>by simp[ya]at h
 |_::_,[],_,h,_,_,_,_,_=>by simp[ya]at h
def Ek{a b:List Key}{k:Key}(ha:k∈a)(hb:k∈b):Hl a b=true:=by simp only[Hl,List.any_eq_true];exact⟨k,ha,k,hb,by simp⟩
def XM{ops:Array Oper}{ks:List Ks}(h:tX ops.toList ks=true):(∀i o e,ops[i]? =some o→e∈o.after→Region.binds .any e=true→e.on<i)∧
  ∀i j a b,i<j→j<ops.size→ks[i]? =some a→ks[j]? =some b→sW a b=true→oL ops i j:=by
 simp only[tX,eX]at h
 refine⟨λi o e ho he hb=>?_,λi j a b nA hj ha hb hc=>?_⟩
 ·have:=XJ ops.toList 0 h.1 i o (by rw[Gz];exact ho) e he hb;omega
 ·have hm:=XI (ops:=ops) ops.toList [] be be (λk hk=>by simp at hk);have rN:j<(x9 ops.toList []).length:=by rw[hm.1];exact hj
  have vj:=XL _ _ [] h.2 j _ b (cr rN) hb i a (by simpa using nA) (by simpa using ha) hc;exact hm.2 j rN i vj
def wT(σ:Kn)(ds:List (List (Key×Info)×List (Key×Option Info))):Kn:=ds.foldl (λσ d=>dI σ d.2) σ
def ah3(ds:List (List (Key×Info)×List (Key×Option Info)))(ks:List Ks):Prop:=
 ks.length=ds.length∧∀j(h:j<ds.length)(h':j<ks.length),(∀k∈dT ds[j].1,k∈ks[j].1)∧∀k∈fi ds[j].2,k∈ks[j].2
def RG(P:Program)(n:Nat)(ops:Array Oper)(draw:Bool)(nx i:Nat)(os:List Oper)(st:St)(ks:List Ks)(Q:St→Prop):Prop:=
 ops.toList.drop i=os→∃(ds:List (List (Key×Info)×List (Key×Option Info)))(st':St),ds.length=os.length∧
  (∀j(h:j<ds.length),zR P n ops (i+j) ds[j].1 ds[j].2 (sQ (λi=>1000000*nx+1000*i) (i+j)))∧
  (∀j(h:j<ds.length),∀kx∈ds[j].1,wT st.kn (ds.take j) kx.1=some kx.2)∧
  st'.kn=wT st.kn ds∧st'.nx=nx+1∧ops.size≤1000∧(draw=true→∃cp,ah3 ds cp∧tX ops.toList (ks++cp)=true)∧Q st'
def Hm{n:Nat}{ops:Array Oper}{draw:Bool}{nx i:Nat}{sl:List (Nat×AV)}{mem:List (Nat×aK)}{n0:Nat}{gd:List (Nat×Bool)}{ks:List Ks}{Q:St→Prop}(h:Q ⟨sl,mem,nx+1,[]⟩)(ho:(!draw||tX ops.toList ks)=true:=by kernel_rfl)(cR:Nat.ble ops.size 1000=true:=by rfl):
  RG P n ops draw nx i [] ⟨sl,mem,n0,gd⟩ ks Q:=by
 intro _
 refine⟨[],⟨sl,mem,nx+1,[]⟩,ae,by simp,by simp,ae,ae,cY cR,λhd=>⟨[],⟨ae,λj h=>by simp at h⟩,?_⟩,h⟩
 subst hd
 simpa using ho
def kT{n:Nat}{ops:Array Oper}{draw:Bool}{nx i:Nat}{o:Oper}{os:List Oper}{st st1:St}{ks:List Ks}{k:Ks}{Q:St→Prop}
  (hs:ops[i]? =some o→ll P n ops i st st1 (1000000*nx+1000*i) k) (h:RG P n ops draw nx (i+1) os st1 (ks++[k]) Q):RG P n ops draw nx i (o::os) st ks Q:=by
 intro yd
 have ho:ops[i]? =some o:=by have:=ay (λl=>l[0]?) yd;simpa[tM]using this
 have Qs:ops.toList.drop (i+1)=os:=by rw[←xW,yd];rfl
 obtain⟨rd,wr,dh,bw,eS,gT,dR⟩:=hs ho
 obtain⟨ds,st',hl,h1,h2,h3,h4,rI,h5,h6⟩:=h Qs
 refine⟨(rd,wr)::ds,st',by simp[hl],?_,?_,?_,h4,rI,?_,h6⟩
 ·intro j hj;cases j with
  |zero=>simpa using dh.Xk (new:=sQ (λi=>1000000*nx+1000*i) i) ⟨bD _,by show 1000000*nx+1000*i<1000000*nx+1000*(i+1);omega⟩
  |succ j=>
   have:=h1 j zo
   rw[show i+(j+1)=i+1+j by omega]
   simpa using this
 ·intro j hj kx aS;cases j with
  |zero=>simp only[xO]at aS;simpa[wT]using bw kx aS
  |succ j=>
   simp only[Gw]at aS
   have:=h2 j zo kx aS
   rw[eS]at this
   simpa[wT]using this
 ·rw[h3,eS];simp[wT]
 ·intro hd;obtain⟨cp,⟨lQ,vk⟩,BK⟩:=h5 hd;refine⟨k::cp,⟨by simp[lQ],λj hj rN=>?_⟩,by simpa using BK⟩;cases j with
  |zero=>exact⟨gT,dR⟩
  |succ j=>exact vk j zo (by simpa using rN)
def ah4{n:Nat}{ops:Array Oper}{nx i:Nat}{os:List Oper}{st:St}{ks cp:List Ks}{Q:St→Prop}(h:RG P n ops false nx i os st cp Q):RG P n ops false nx i os st ks Q:=by intro yd;obtain⟨ds,st',hl,h1,h2,h3,h4,rI,_,h6⟩:=h yd;exact⟨ds,st',hl,h1,h2,h3,h4,rI,by simp,h6⟩
def Em{n:Nat}{ops:Array Oper}{draw:Bool}{nx i:Nat}{o:Oper}{os:List Oper}{st st1:St}{ks:List Ks}{k:Ks}{p:Pr}{Q:St→Prop}(aT:cM P tt=true)
  (hs:z5 tt n (1000000*nx+1000*i) ops.toList o st=some (st1,p,k)) (hp:p) (h:RG P n ops draw nx (i+1) os st1 (ks++[k]) Q):RG P n ops draw nx i (o::os) st ks Q:=
 kT (λho=>XH aT ho hs hp) h
def fp(draw:Bool)(ks:List Ks)(k:Ks):List Ks:=match draw with
 |true=>ks++[k]
 |false=>[]
def jD{n:Nat}{ops:Array Oper}{draw:Bool}{nx i:Nat}{os:List Oper}{st:St}{ks:List Ks}{k:Ks}{Q:St→Prop}(h:RG P n ops draw nx i os st (fp draw ks k) Q):RG P n ops draw nx i os st (ks++[k]) Q:=by
 cases draw with
 |true=>exact h
 |false=>exact ah4 h
def runs(tt:TT)(n nx:Nat)(draw:Bool)(opsL:List Oper):List Oper→Nat→St→Pr→List Ks→List Oper×Nat×St×Pr×List Ks
 |[],i,st,p,ks=>([],i,st,p,ks)
 |o::os,i,st,p,ks=>match z5 tt n (1000000*nx+1000*i) opsL o st with
  |some (st',q,k)=>runs tt n nx draw opsL os (i+1) st' (.an p q) (fp draw ks k)
  |none=>(o::os,i,st,p,ks)
def XN{n:Nat}{ops:Array Oper}{draw:Bool}{nx:Nat}{Q:St→Prop}(aT:cM P tt=true):∀(os:List Oper)(i:Nat)(st:St)(p:Pr)(ks:List Ks){cG:List Oper}{i':Nat}{st':St}{p':Pr}{cp:List Ks},
  runs tt n nx draw ops.toList os i st p ks=(cG,i',st',p',cp)→p'.h→(RG P n ops draw nx i' cG st' cp Q)→p.h∧RG P n ops draw nx i os st ks Q
 |[],i,st,p,ks,cG,i',st',p',cp,h,hp,hr=>by simp only[runs,cE]at h;obtain⟨rfl,rfl,rfl,rfl,rfl⟩:=h;exact⟨hp,hr⟩
 |o::os,i,st,p,ks,cG,i',st',p',cp,h,hp,hr=>by
  simp only[runs]at h;split at h
  ·rename_i st1 q k hs;obtain⟨En,h3⟩:=XN aT os (i+1) st1 (.an p q) (fp draw ks k) h hp hr;obtain⟨h1,h2⟩:=Pr.D3 En;exact⟨h1,Em aT hs h2 (jD h3)⟩
  ·simp only[cE]at h;obtain⟨rfl,rfl,rfl,rfl,rfl⟩:=h;exact⟨hp,hr⟩
def jE{n:Nat}{ops:Array Oper}{draw:Bool}{nx i:Nat}{os:List Oper}{st:St}{ks:List Ks}{Q:St→Prop}{cG:List Oper}{i':Nat}{st':St}{p':Pr}{cp:List Ks}(aT:cM P tt=true)
  (h:runs tt n nx draw ops.toList os i st .t ks=(cG,i',st',p',cp)) (hp:p') (hr:RG P n ops draw nx i' cG st' cp Q):RG P n ops draw nx i os st ks Q:=
 (XN aT os i st .t ks h hp hr).2
def BL{α:Type}(ds:List α)(d:α)(j:Nat)(h:j<ds.length):ds.getD j d=ds[j]:=by rw[aU,cr h];rfl
def Lf(ds:List (List (Key×Info)×List (Key×Option Info)))(σ:Kn):∀j,j≤ds.length→fold (λi=>(ds.getD i ([],[])).2) σ (List.range j)=wT σ (ds.take j):=by
 intro j;induction j with
 |zero=>intro _;rfl
 |succ j ih=>
  intro hj
  rw[qk,PW,ih af,Kk af]
  simp only[wT,List.foldl_append,KE,List.foldl_nil]
  rw[BL ds _ j af]
def kb(st:St):Nat→Prop:=λid=>id<1000000*st.nx
def ah5{ops:Array Oper}{draw:Bool}{st:St}{Q:St→Prop}{F:de}{id:Nat}{R:Exit→Act→World→Prop}(bw:F.rd=none)(oM:P.follows .mixedOrders=true)(h:RG P F.n ops draw st.nx 0 ops.toList st [] Q)
  (hQ:∀st',Q st'→∀g W a,bJ F (kb st') st'.kn g W a→R .normal a W) {g:Gh} {W:World} {a:Act} (h0:bJ F (kb st) st.kn g W a):(Code.region id ops draw).wp P R a W:=by
 refine(ahg bw).1 ?_
 have fK:zQ F.rd ops:=by rw[bw];exact ahf
 obtain⟨ds,st',hl,h1,h2,h3,h4,rI,h5,h6⟩:=h be
 have GQ:ds.length=ops.size:=Gl
 have hs:∀i,i<ops.size→zR P F.n ops i ((ds.getD i ([],[])).1) ((ds.getD i ([],[])).2) (sQ (λi=>1000000*st.nx+1000*i) i):=by intro i hi;have:=h1 i af;rw[BL ds _ i af];simpa using this
 have ht:∀i,i<ops.size→∀kx∈(ds.getD i ([],[])).1,fold (λi=>(ds.getD i ([],[])).2) st.kn (List.range i) kx.1=some kx.2:=by intro i hi kx aS;rw[Lf ds st.kn i af];rw[BL ds _ i af]at aS;exact h2 i af kx aS
 have tY:∀g W a,bJ F (·<1000000*st.nx+1000*ops.size) (fold (λi=>(ds.getD i ([],[])).2) st.kn (List.range ops.size)) g W a→R .normal a W:=by intro g W a hh;refine hQ st' h6 g W a ?_;rw[h3];rw[Lf ds st.kn ops.size af,lI af]at hh;exact hh.weaken (λid al=>by simp only[kb,h4];omega)
 cases draw with
 |false=>exact Xl (c:=λi=>1000000*st.nx+1000*i) (λi=>by show 1000000*st.nx+1000*i≤1000000*st.nx+1000*(i+1);omega) h0 hs ht tY fK
 |true=>
  obtain⟨ks,⟨rK,z6⟩,BK⟩:=h5 ae
  have ho:=XM BK
  have BM:∀i j,i<j→j<ops.size→∀a b:Ks,(ks[i]? =some a→ks[j]? =some b→sW a b=true→oL ops i j):=by intro i j nA hj a b ha hb hc;exact ho.2 i j a b nA hj (by simpa using ha) (by simpa using hb) hc
  have m7:∀i(hi:i<ops.size),∃a,ks[i]? =some a∧(∀k∈dT (ds.getD i ([],[])).1,k∈a.1)∧∀k∈fi (ds.getD i ([],[])).2,k∈a.2:=by intro i hi;have tZ:i<ks.length:=af;refine⟨ks[i],cr tZ,?_⟩;rw[BL ds _ i af];exact z6 i af tZ
  refine Xn (c:=λi=>1000000*st.nx+1000*i) (λi=>by show 1000000*st.nx+1000*i≤1000000*st.nx+1000*(i+1);omega) oM ho.1 h0 hs ht ?_ ?_ ?_ tY fK
  ·intro i j nA hj k gT dR;obtain⟨a,ha,_,wU⟩:=m7 i af;obtain⟨b,hb,_,dO⟩:=m7 j hj;exact BM i j nA hj a b ha hb (by simp only[sW,Ek (wU k gT) (dO k dR),PH])
  ·intro i j nA hj k gT dR;obtain⟨a,ha,_,wU⟩:=m7 i af;obtain⟨b,hb,jq,_⟩:=m7 j hj;exact BM i j nA hj a b ha hb (by simp only[sW,Ek (wU k gT) (jq k dR),PH,PI])
  ·intro i j nA hj k gT dR;obtain⟨a,ha,wV,_⟩:=m7 i af;obtain⟨b,hb,_,dO⟩:=m7 j hj;exact BM i j nA hj a b ha hb (by simp only[sW,Ek (wV k gT) (dO k dR),PI])
end
def jd:Nat→Value:=λ_=>undef
def jt(g:Gh):List AV→List Value→Prop
 |[],vs=>vs=[]
 |x::xs,vs=>∃v r,vs=v::r∧bP g x v∧jt g xs r
def fN:List AV→List Nat
 |[]=>[]
 |x::xs=>x.aD++fN xs
def bP.il{g:Gh}{x:AV}{v:Value}(h:bP g x v)(hm:x.aD=[]){H:FH}(hl:cF g.H H)(γ:Nat→Value):bP ⟨H,γ⟩ x v:=
 bP.mono (known:=λ_=>False) ⟨hl,λ_ h=>h.elim⟩ (by simp[hm]) h
def jt.il{g:Gh}{γ:Nat→Value}:∀{xs:List AV}{vs:List Value},jt g xs vs→fN xs=[]→jt ⟨g.H,γ⟩ xs vs
 |[],_,h,_=>h
 |x::xs,_,h,hm=>by simp only[fN,Gx]at hm;obtain⟨v,r,rfl,h1,h2⟩:=h;exact⟨v,r,ae,h1.il hm.1 (cF.refl _) γ,h2.il hm.2⟩
def Lg(W:World)(H:FH)(r:AV)(e:Ending)(W':World):Prop:=
 ∃v H',e= .returned v∧bP ⟨H',jd⟩ r v∧cF H H'∧(∀b o,b<W.heap.size→H' b o=H b o)∧Sub H' W'∧Below W.heap.size W W'
def mD(P:Program)(f:FuncId):Bool:=match P.funcs[f]? with
 |some fn=>fn.name != "runtime.NumGoroutine" &&fn.body.isSome
 |none=>false
structure aG(P:Program)(f:FuncId)(args:List AV)(r:AV):Prop where
 call:mD P f=true
 il:r.aD=[]
 spec:∀H W vs,Sub H W→jt ⟨H,jd⟩ args vs→Calls P f vs.toArray W (Lg W H r)
section
variable{P:Program}{tt:TT}
def kH(st:St):List Operand→Option (List AV)
 |[]=>some []
 |x::xs=>match st.ev x,kH st xs with
  |some v,some vs=>some (v::vs)
  |_,_=>none
def z7{F:de}{known:Nat→Prop}{σ:Kn}{g:Gh}{W:World}{a:Act}(h:bJ F known σ g W a)(st:St):∀(xs:List Operand)(vs:List AV),kH st xs=some vs→
  (∀kx∈xs.flatMap (dU st),σ kx.1=some kx.2)→jt g vs (xs.map a.eval)
 |[],vs,he,_=>by simp only[kH,aO]at he;subst he;rfl
 |x::xs,vs,he,hr=>by
  simp only[kH]at he;split at he
  ·rename_i v Eo hv Hh;simp only[aO]at he;subst he;refine⟨_,_,ae,gI h st x v hv (λkx aS=>hr kx jw),z7 h st xs Eo Hh (λkx aS=>hr kx ?_)⟩;simp only[gN,b6];exact .inr aS
  ·simp at he
def Qt{n new:Nat}{ops:Array Oper}{i:Nat}{o:Oper}(ho:ops[i]? =some o)(hg:o.guard=none){d:Nat}(hd:o.dst=some d)(aV:d<n){f:FuncId}{args:Array Operand}{dn:Array TypeId}(ck:o.op= .call ⟨.value (.func f),args,dn⟩)
  {st:St} {vs:List AV} {r:AV} (hv:kH st args.toList=some vs) (hm:fN vs=[]) (hf:aG P f vs r):ll P n ops i st (st.put d r) new (cH args.toList,[.s d]):=by
 refine⟨args.toList.flatMap (dU st),[(.s d,some (.v r))],?_,?_,n6 st d r,fX st _,λk hk=>by simpa[fi]using hk⟩
 ·intro F gk Q known σ g W a K dX aJ bw hK;have kE:=(z7 aJ st _ _ hv bw).il (γ:=jd) hm;have hc:=hf.spec g.H W _ aJ.sub kE;unfold wpOp;simp only[ho,Region.wanted,hg,cP];refine .inl ?_;unfold Oper.wp;have hex:(execOp a.eval o).run P W= .ok (.enter f (args.map a.eval)) W:=by
   have cy:=hf.call;unfold mD at cy;rw[execOp,ck];cases iB:P.funcs[f]? with
   |none=>rw[iB]at cy;simp at cy
   |some fn=>
    rw[iB]at cy
    simp only[eX,bne_iff_ne,ne_eq]at cy
    have h2:fn.body≠none:=by intro hb;rw[hb]at cy;simp at cy
    simp[resolve,Act.eval,Deferred.ofValue,invoke,callFunc,iB,cy.1,h2]
  rw[hex];simp only[Oper.upon];have iP:(args.map a.eval)=(args.toList.map a.eval).toArray:=wo;rw[iP];refine hc.mono ?_;rintro e W' ⟨v,H',rfl,bW,hle,lR,eL,eN⟩;simp only[hd];have cR:d<a.tmps.size:=rA;refine hK ⟨H',g.γ⟩ W' _ (aJ.step (chg:=λ_=>False) (g':=⟨H',g.γ⟩) ⟨⟨hle,λ_ _=>rfl⟩,lR,eL,eN.size,λk hk _=>eN.block k hk,eN.os,eN.tape,eN.output⟩ _ new dX sC aJ.defers ?_ (λ_ h=>h.elim) ?_ ?_ ?_ ?_)
  ·intro t ht;have aR:d≠t:=tL;simp[Act.put,nT aR]
  ·intro t u ht;simp only[bc]at ht;split at ht
   ·rename_i e;simp only[Key.s.injEq]at e;simp only[aO,Info.v.injEq]at ht;subst e;subst ht;have:=bW.il hf.il (cF.refl _) g.γ;simpa[Act.put,cR]using this
   ·simp at ht
  ·intro id b ht;simp[bc]at ht
  ·intro k y ht;simp only[bc]at ht;split at ht
   ·simp only[aO]at ht;subst ht;intro id al;have:id∈r.aD:=al;rw[hf.il]at this;cases this
   ·simp at ht
  ·intro id y ht;simp[bc]at ht
 ·intro kx aS;obtain⟨x,_,h⟩:=jK.1 aS;exact gn st x kx h
def ah6{n:Nat}{ops:Array Oper}{draw:Bool}{nx i:Nat}{d f:Nat}{args:Array Operand}{dn:Array TypeId}{ty:TypeId}{pos:String}{cJ:Array Edge}{os:List Oper}{sl:List (Nat×AV)}{mem:List (Nat×aK)}{n0:Nat}{gd:List (Nat×Bool)}{ks:List Ks}{Q:St→Prop}{vs:List AV}{r:AV}
  (hv:kH ⟨sl,mem,n0,gd⟩ args.toList=some vs) (hf:aG P f vs r) (h:RG P n ops draw nx (i+1) os ⟨(d,r)::sl,mem,n0,gd⟩ (fp draw ks (cH args.toList,[.s d])) Q) (hm:fN vs=[]:=by rfl) (aV:Nat.blt d n=true:=by rfl):
  RG P n ops draw nx i (⟨some d,.call ⟨.value (.func f),args,dn⟩,ty,pos,cJ,none⟩::os) ⟨sl,mem,n0,gd⟩ ks Q:=
 kT (λho=>Qt ho ae ae (cY aV) ae hv hm hf) (jD h)
def ah7{n:Nat}{ops:Array Oper}{draw:Bool}{nx i:Nat}{d f:Nat}{args:Array Operand}{dn:Array TypeId}{ty:TypeId}{pos:String}{cJ:Array Edge}{j tg:Nat}{want b:Bool}{os:List Oper}{sl:List (Nat×AV)}{mem:List (Nat×aK)}{n0:Nat}{gd:List (Nat×Bool)}{ks:List Ks}{Q:St→Prop}{vs:List AV}{r:AV}
  (hj:wS ops.toList j=some tg) (hb:ao tg sl=some (.c (.B b))) (vi:b=want)
  (hv:kH ⟨sl,mem,n0,gd⟩ args.toList=some vs) (hf:aG P f vs r) (h:RG P n ops draw nx (i+1) os ⟨(d,r)::sl,mem,n0,gd⟩ (fp draw ks (.s tg::cH args.toList,[.s d])) Q) (hm:fN vs=[]:=by rfl) (aV:Nat.blt d n=true:=by rfl):
  RG P n ops draw nx i (⟨some d,.call ⟨.value (.func f),args,dn⟩,ty,pos,cJ,some (j,want)⟩::os) ⟨sl,mem,n0,gd⟩ ks Q:=
 kT (λho=>Le ho ae hj hb vi (Qt (ops:= #[⟨some d,.call ⟨.value (.func f),args,dn⟩,ty,pos,cJ,none⟩]) (i:=0) ae ae ae (cY aV) ae hv hm hf)) (jD h)
def ah8{n:Nat}{ops:Array Oper}{draw:Bool}{nx i:Nat}(t:Nat){b:Bool}{os:List Oper}{sl:List (Nat×AV)}{mem:List (Nat×aK)}{n0:Nat}{gd:List (Nat×Bool)}{ks:List Ks}{Q:St→Prop}(hb:ao t sl=some (.c (.B b)))
  (ht:b=true→RG P n ops draw nx i os ⟨(t,.c (.B true))::sl,mem,n0,(t,true)::gd⟩ ks Q)
  (hf:b=false→RG P n ops draw nx i os ⟨(t,.c (.B false))::sl,mem,n0,(t,false)::gd⟩ ks Q):RG P n ops draw nx i os ⟨sl,mem,n0,gd⟩ ks Q:=by
 have key:∀c:Bool,b=c→(⟨(t,.c (.B c))::sl,mem,n0,(t,c)::gd⟩:St).kn=(⟨sl,mem,n0,gd⟩:St).kn:=by
  intro c e;subst e;funext k;cases k with
  |s t'=>
   by_cases e:t=t'
   ·subst e;simp[St.kn,ao,hb]
   ·simp[St.kn,ao,e]
  |m id=>rfl
 cases b with
 |true=>
  intro h1
  obtain⟨ds,st',r⟩:=ht ae h1
  rw[key true ae]at r
  exact⟨ds,st',r⟩
 |false=>
  intro h1
  obtain⟨ds,st',r⟩:=hf ae h1
  rw[key false ae]at r
  exact⟨ds,st',r⟩
structure de.pl(F:de)(n:Nat):Prop where
 n:F.n=n
 k0:F.k0≤1
 rd:F.rd=none
 ds:F.ds=[]
abbrev fG:=de→Exit→Act→World→Prop
def TR(P:Program)(n:Nat)(c:Code)(st:St)(Q:fG):Prop:=∀F:de,F.pl n→∀g W a,bJ F (kb st) st.kn g W a→c.wp P (Q F) a W
def gq(n:Nat)(e:Exit)(st:St)(Q:fG):Prop:=∀F:de,F.pl n→∀g W a,bJ F (kb st) st.kn g W a→Q F e a W
def z8(P:Program)(y:Code)(Q:fG):fG:=λF=>Exit.then (λa W=>y.wp P (Q F) a W) (Q F)
def BN(id:Nat)(Q:fG):fG:=λF=>Exit.inBlock id (Q F)
def Lh{α:Type}(iC:α→St)(φ:α→Prop)(μ:α→Nat)(x:α)(Q:fG):fG:=λF=>Exit.then (λa W=>∃x' g,φ x'∧μ x'<μ x∧bJ F (kb (iC x')) (iC x').kn g W a) (Q F)
variable{n:Nat}{Q:fG}{st:St}
def aj{x y:Code}(h:TR P n x st (z8 P y Q)):TR P n (.seq x y) st Q:=λF hF g W a hh=>wp_seq (h F hF g W a hh)
def aC(h:gq n .normal st Q):TR P n .skip st Q:=λF hF g W a hh=>wp_skip (h F hF g W a hh)
def bh{id:Nat}(h:gq n (.exit id) st Q):TR P n (.exit id) st Q:=λF hF g W a hh=>wp_exit (h F hF g W a hh)
def aF(h:gq n .ret st Q):TR P n .ret st Q:=λF hF g W a hh=>wp_ret (h F hF g W a hh)
def aH{id:Nat}{c:Code}(h:TR P n c st (BN id Q)):TR P n (.block id c) st Q:=λF hF g W a hh=>wp_block (h F hF g W a hh)
def ax{c:Operand}{x y:Code}{b:Bool}(hc:st.ev c=some (.c (.B b)))(ht:b=true→TR P n x st Q)(hf:b=false→TR P n y st Q):TR P n (.cond c x y) st Q:=by intro F hF g W a hh;have hr:bP g (.c (.B b)) (a.eval c):=gI hh st c _ hc (gn st c);exact wp_cond_split hr (λe=>ht e F hF g W a hh) (λe=>hf e F hF g W a hh)
def Li{id:Nat}{ops:Array Oper}{draw:Bool}(oM:P.follows .mixedOrders=true)(h:RG P n ops draw st.nx 0 ops.toList st [] (λst'=>gq n .normal st' Q)):TR P n (.region id ops draw) st Q:=by intro F hF g W a hh;have hn:=hF.n;subst hn;exact ah5 hF.rd oM h (λst' hq g W a Hn=>hq F hF g W a Hn) hh
def ai{y:Code}(h:TR P n y st Q):gq n .normal st (z8 P y Q):=h
def bt{y:Code}{id:Nat}(h:gq n (.exit id) st Q):gq n (.exit id) st (z8 P y Q):=h
def bS{y:Code}(h:gq n .ret st Q):gq n .ret st (z8 P y Q):=h
def a6{id:Nat}(h:gq n .normal st Q):gq n .normal st (BN id Q):=h
def fq{id:Nat}(h:gq n .ret st Q):gq n .ret st (BN id Q):=h
def bp{id:Nat}(h:gq n .normal st Q):gq n (.exit id) st (BN id Q):=λF hF g W a hh=>by simp only[BN,Exit.inBlock,cP];exact h F hF g W a hh
def Ho{id b9:Nat}(h:gq n (.exit b9) st Q)(aR:b9≠id:=by decide):gq n (.exit b9) st (BN id Q):=λF hF g W a hh=>by simp only[BN,Exit.inBlock,aR,cV];exact h F hF g W a hh
def bq{α:Type}{iC:α→St}{φ:α→Prop}{μ:α→Nat}{x:α}{id:Nat}(h:gq n (.exit id) st Q):gq n (.exit id) st (Lh iC φ μ x Q):=h
def gU{α:Type}{iC:α→St}{φ:α→Prop}{μ:α→Nat}{x:α}(h:gq n .ret st Q):gq n .ret st (Lh iC φ μ x Q):=h
def Wk(st st':St):Prop:=∀F:de,F.k0≤1→∀g W a,bJ F (kb st) st.kn g W a→∃g',bJ F (kb st') st'.kn g' W a
def a8{α:Type}{iC:α→St}{φ:α→Prop}{μ:α→Nat}{x:α}(x':α)(h1:φ x')(h2:μ x'<μ x)(hw:Wk st (iC x')):gq n .normal st (Lh iC φ μ x Q):=by intro F hF g W a hh;obtain⟨g',h'⟩:=hw F hF.k0 g W a hh;exact⟨x',g',h1,h2,h'⟩
def ah9{c:Code}{α:Type}(I:α→Act→World→Prop)(μ:α→Nat){Q:Exit→Act→World→Prop}(x:α){a:Act}{w:World}(h₀:I x a w)
  (round:∀x a w,I x a w→c.wp P (Exit.then (λa' w'=>∃x',I x' a' w'∧μ x'<μ x) Q) a w):(Code.loop c).wp P Q a w:=by
 intro b k cs
 have key:∀n x a w,μ x=n→I x a w→
   ∃e a' w',Q e a' w'∧Arrives P (lone (b.at a (.code c:: .inLoop c::k)) cs w) b k cs e a' w':=by
  intro n
  induction n using Nat.strongRecOn with
  |_ n ih=>
   intro x a w hn hI
   obtain⟨e,a₁,w₁,hq,iP⟩:=round x a w hI b (.inLoop c::k) cs
   cases e with
   |normal=>
    obtain⟨x',Qu,br⟩:=hq
    obtain⟨e₂,a₂,w₂,Qv,Qw⟩:=ih (μ x') (hn▸br) x' a₁ w₁ ae Qu
    exact⟨e₂,a₂,w₂,Qv,.of_steps (Steps.trans iP (.one step_inLoop)) Qw⟩
   |exit id=>exact⟨_,a₁,w₁,hq,.pass (x:= .inLoop c) ae (λ_ _=> .inl be) iP⟩
   |goto l=>exact⟨_,a₁,w₁,hq,.pass (x:= .inLoop c) ae (λ_ _=> .inl be) iP⟩
   |ret=>exact⟨_,a₁,w₁,hq,.pass (x:= .inLoop c) ae (λ_ _=> .inl be) iP⟩
   |panic ch=>exact⟨_,a₁,w₁,hq,.pass (x:= .inLoop c) ae (λ_ _=> .inl be) iP⟩
   |outgrown=>exact⟨_,a₁,w₁,hq,.pass (x:= .inLoop c) ae (λ_ _=> .inl be) iP⟩
 obtain⟨e,a',w',hq,iP⟩:=key _ x a w ae h₀
 exact⟨e,a',w',hq,.of_steps (.one step_loop) iP⟩
def bA{α:Type}(iC:α→St)(φ:α→Prop)(μ:α→Nat)(x0:α){c:Code}(h0:φ x0)(hw:Wk st (iC x0))(round:∀x,φ x→TR P n c (iC x) (Lh iC φ μ x Q)):TR P n (.loop c) st Q:=by
 intro F hF g W a hh;obtain⟨g',h'⟩:=hw F hF.k0 g W a hh;refine ah9 (λx a W=>φ x∧∃g,bJ F (kb (iC x)) (iC x).kn g W a) μ x0 ⟨h0,g',h'⟩ ?_;rintro x a W ⟨hφ,g,hg⟩;refine wp_mono (round x hφ F hF g W a hg) ?_;intro e a' W' hq;cases e with
 |normal=>
  obtain⟨x',Qx,h1,h2,h3⟩:=hq
  exact⟨x',⟨h1,Qx,h3⟩,h2⟩
 |_=>exact hq
end
section
variable{P:Program}{tt:TT}{n:Nat}{Q:fG}{st:St}
def au(v v':AV):Prop:=(∀g x,bP g v x→bP g v' x)∧∀id∈v'.aD,id∈v.aD
def au.refl(v:AV):au v v:=⟨λ_ _ h=>h,λ_ h=>h⟩
def au.of_eq{v v':AV}(h:v=v'):au v v':=h▸au.refl v
def au.nil(T:ET):au (.c (.V (.slice none 0 0))) (.c (.S T [])):=⟨λg x h=>by have h':x= .slice none 0 0:=h;subst h';exact⟨none,0,ae,bD _,by simp,.inl ae⟩,by simp[AV.aD,C.aD]⟩
def di(b b':aK):Prop:=(∀N g W id,jn N g W id b→jn N g W id b')∧∀id∈b'.aD,id∈b.aD
def di.refl(b:aK):di b b:=⟨λ_ _ _ _ h=>h,λ_ h=>h⟩
def di.of_eq{b b':aK}(h:b=b'):di b b':=h▸di.refl b
def ye(l:List (Nat×AV)):List (Nat×AV)→Prop
 |[]=>True
 | (t,v')::r=>(∃v,ao t l=some v∧au v v')∧ye l r
def iQ(l:List (Nat×aK)):List (Nat×aK)→Prop
 |[]=>True
 | (t,v')::r=>(∃v,ao t l=some v∧di v v')∧iQ l r
def ye.get{l:List (Nat×AV)}:∀{m:List (Nat×AV)},ye l m→∀{t v'},ao t m=some v'→∃v,ao t l=some v∧au v v'
 |[],_,_,_,h=>by simp[ao]at h
 | (k,x)::m,hw,t,v',h=>by
  simp only[ao]at h;split at h
  ·rename_i e;subst e;cases h;exact hw.1
  ·exact ye.get hw.2 h
def iQ.get{l:List (Nat×aK)}:∀{m:List (Nat×aK)},iQ l m→∀{t v'},ao t m=some v'→∃v,ao t l=some v∧di v v'
 |[],_,_,_,h=>by simp[ao]at h
 | (k,x)::m,hw,t,v',h=>by
  simp only[ao]at h;split at h
  ·rename_i e;subst e;cases h;exact hw.1
  ·exact iQ.get hw.2 h
def sX(b:Nat):List Nat→Bool
 |[]=>true
 |id::r=>Nat.blt id b&&sX b r
def sY(b:Nat):List (Nat×AV)→Bool
 |[]=>true
 | (_,v)::r=>sX b v.aD&&sY b r
def nC(b:Nat):List (Nat×aK)→Bool
 |[]=>true
 | (id,v)::r=>Nat.blt id b&&sX b v.aD&&nC b r
def Lj{b:Nat}:∀{l:List Nat},sX b l=true→∀id∈l,id<b
 |[],_,_,h=>by simp at h
 |j::r,hb,id,h=>by
  simp only[sX,eX]at hb;rcases dC.1 h with rfl|h
  ·exact cY hb.1
  ·exact Lj hb.2 id h
def z9{b:Nat}:∀{l:List (Nat×AV)},sY b l=true→∀t v,ao t l=some v→∀id∈v.aD,id<b
 |[],_,_,_,h=>by simp[ao]at h
 | (k,x)::r,hb,t,v,h=>by
  simp only[sY,eX]at hb;simp only[ao]at h;split at h
  ·cases h;exact Lj hb.1
  ·exact z9 hb.2 t v h
def Lk{b:Nat}:∀{l:List (Nat×aK)},nC b l=true→∀t v,ao t l=some v→t<b∧∀id∈v.aD,id<b
 |[],_,_,_,h=>by simp[ao]at h
 | (k,x)::r,hb,t,v,h=>by
  simp only[nC,eX]at hb;simp only[ao]at h;split at h
  ·rename_i e;subst e;cases h;exact⟨cY hb.1.1,Lj hb.1.2⟩
  ·exact Lk hb.2 t v h
def wk{st st':St}(hs:ye st.sl st'.sl)(hm:iQ st.mem st'.mem)(hn:(sY (1000000*st'.nx) st'.sl&&nC (1000000*st'.nx) st'.mem&&(Nat.ble 1 st'.nx||Nat.ble st.nx 0))=true:=by rfl):Wk st st':=by
 intro F gV g W a h;simp only[eX,zz]at hn;obtain⟨hn,fe⟩:=hn;have yf:∀id,id<F.k0→kb st' id∧g.γ id=F.γ0 id:=by
  intro id al;obtain⟨h1,h2⟩:=h.iz id al;refine⟨?_,h2⟩;have h1:id<1000000*st.nx:=h1;show id<1000000*st'.nx;rcases fe with e|e
  ·have:=cY e;omega
  ·have:=cY e;omega
 have hS:∀t v',st'.kn (.s t)=some (.v v')→(∃v,st.kn (.s t)=some (.v v)∧au v v')∧∀id∈v'.aD,id<1000000*st'.nx:=by intro t v' e;simp only[St.kn,ct]at e;obtain⟨x,hx,he⟩:=e;cases he;obtain⟨v,hv,hle⟩:=hs.get hx;exact⟨⟨v,by simp[St.kn,hv],hle⟩,z9 hn.1 t v' hx⟩
 have hM:∀id b',st'.kn (.m id)=some (.b b')→(∃b,st.kn (.m id)=some (.b b)∧di b b')∧id<1000000*st'.nx∧∀j∈b'.aD,j<1000000*st'.nx:=by intro t v' e;simp only[St.kn,ct]at e;obtain⟨x,hx,he⟩:=e;cases he;obtain⟨v,hv,hle⟩:=hm.get hx;exact⟨⟨v,by simp[St.kn,hv],hle⟩,Lk hn.2 t v' hx⟩
 refine⟨g,h.size,h.defers,?_,?_,?_,?_,?_,h.sub,h.below,h.le,h.fresh,yf⟩
 ·intro t v' e;obtain⟨⟨v,hv,hle⟩,_⟩:=hS t v' e;exact hle.1 _ _ (h.gG t v hv)
 ·intro id b' e;obtain⟨⟨b,hb,hle⟩,_⟩:=hM id b' e;exact hle.1 _ _ _ _ (h.df id b hb)
 ·intro id b9 b b' k e e' hk dx;obtain⟨⟨c,hc,_⟩,_⟩:=hM id b e;obtain⟨⟨c',pI,_⟩,_⟩:=hM b9 b' e';exact h.inj id b9 c c' k hc pI hk dx
 ·intro k x e id al;cases k with
  |s t=>
   cases x with
   |v v'=>exact(hS t v' e).2 id al
   |b b'=>simp only[St.kn,ct]at e;obtain⟨_,_,he⟩:=e;cases he
  |m j=>
   cases x with
   |v v'=>simp only[St.kn,ct]at e;obtain⟨_,_,he⟩:=e;cases he
   |b b'=>exact(hM j b' e).2.2 id al
 ·intro id x e;cases x with
  |v v'=>simp only[St.kn,ct]at e;obtain⟨_,_,he⟩:=e;cases he
  |b b'=>exact(hM id b' e).2.1
def dy{c:Code}{st':St}(hw:Wk st st')(h:TR P n c st' Q):TR P n c st Q:=by intro F hF g W a hh;obtain⟨g',h'⟩:=hw F hF.k0 g W a hh;exact h F hF g' W a h'
def Qy{e:Exit}{st':St}(hw:Wk st st')(h:gq n e st' Q):gq n e st Q:=by intro F hF g W a hh;obtain⟨g',h'⟩:=hw F hF.k0 g W a hh;exact h F hF g' W a h'
def Ll(P:Program)(fn:Func)(r:AV):fG:=λF e a W=>(∀b,¬F.own b)→bodyPost P fn (Lg F.w0 F.H0 r) e a W
def BO(tt:TT)(st:St):ResultVar→Option AV
 | .tmp t=>ao t st.sl
 | .cell t ty=>(match ao t st.sl with
  |some (.c (.P id off))=>(match ao id st.mem,qv tt ty with
   |some (.box _ _ cs),some (sz,ag)=>pD cs off sz ag
   |_,_=>none)
  |_=>none)
def wW:AV→Option (Bool×List C)
 | .c x=>some (false,[x])
 | .a cs=>some (true,cs)
 | .t _=>none
def Ep(tt:TT)(st:St):List ResultVar→Option (List (Bool×List C))
 |[]=>some []
 |x::xs=>(match BO tt st x with
  |some v=>(match wW v,Ep tt st xs with
   |some s,some r=>some (s::r)
   |_,_=>none)
  |none=>none)
def ua(tt:TT)(st:St):List ResultVar→Option AV
 |[x]=>BO tt st x
 |xs=>(Ep tt st xs).map .t
def BP(tmps:Array Value):ResultVar→Go.Sem Value
 | .tmp t=>pure (tmps.getD t undef)
 | .cell b t=>do loadVar t (←asAddr (tmps.getD b undef))
def XO(aT:cM P tt=true){F:de}{known:Nat→Prop}{g:Gh}{W:World}{a:Act}(h:bJ F known st.kn g W a){x:ResultVar}{v:AV}(hv:BO tt st x=some v):
  ∃u,(BP a.tmps x).run P W= .ok u W∧bP g v u:=by
 cases x with
 |tmp t=>
  simp only[BO]at hv
  exact⟨_,by simp[BP,pure],h.gG t v Kf⟩
 |cell b t=>
  simp only[BO]at hv
  split at hv
  ·rename_i id off hl;split at hv
   ·rename_i E bz cs sz ag hm ki;obtain⟨b',vs,rest,hγ,hh,hr,_,_⟩:=h.df id (.box E bz cs) (by simp[St.kn,hm]);obtain⟨GR,fy,hp⟩:=h.gG b (.c (.P id off)) (by simp[St.kn,hl]);rw[hγ]at fy;simp only[aO]at fy;subst fy;obtain⟨u,b7,hu⟩:=G8 (W:=W) aT ki hr hv b' 0 (λj hj=>by have:=tV hh j cT;rw[zv hj]at this;simpa using this);refine⟨u,?_,hu⟩;simp only[eZ]at b7;simp only[BP,hp,asAddr];simpa[Instr.loadAt,Instr.sureAddr]using b7
   ·simp at hv
  ·simp at hv
def XP{g:Gh}{v:AV}{s:Bool×List C}(h:wW v=some s){u:Value}(hr:bP g v u):Bx g s u:=by
 cases v with
 |c x=>simp only[wW,aO]at h;subst h;exact hr
 |a cs=>simp only[wW,aO]at h;subst h;exact hr
 |t _=>simp[wW]at h
def BQ(aT:cM P tt=true){F:de}{known:Nat→Prop}{g:Gh}{W:World}{a:Act}(h:bJ F known st.kn g W a){fn:Func}{rs:List ResultVar}(fM:fn.results=rs.toArray){v:AV}(hv:ua tt st rs=some v):
  ∃u,(results fn a.tmps).run P W= .ok u W∧bP g v u:=by
 have hl:∀(rs:List ResultVar)(ss:List (Bool×List C)),Ep tt st rs=some ss→∃us:List Value,(rs.mapM (BP a.tmps)).run P W= .ok us W∧dv g ss us∧us.length=rs.length:=by
  intro rs;induction rs with
  |nil=>intro ss qD;simp only[Ep,aO]at qD;subst qD;exact⟨[],by simp[pure],ae,ae⟩
  |cons x xs ih=>
   intro ss qD
   simp only[Ep]at qD
   split at qD
   ·rename_i v1 kD;split at qD
    ·rename_i s r hs hr;simp only[aO]at qD;subst qD;obtain⟨u,hu,bW⟩:=XO aT h kD;obtain⟨us,jc,yg,hlen⟩:=ih r hr;refine⟨u::us,?_,⟨u,us,ae,XP hs bW,yg⟩,by simp[hlen]⟩;rw[List.mapM_cons];simp only[Sem.run_bind,hu,Result.andThen,jc];simp[pure]
    ·simp at qD
   ·simp at qD
 have e:results fn a.tmps=(do let vs ←rs.toArray.mapM (BP a.tmps);pure (if h:vs.size=1 then vs[0]else .tuple vs)):=by unfold results;rw[fM];rfl
 have Lm:Array.mapM (BP a.tmps) rs.toArray=Functor.map List.toArray (rs.mapM (BP a.tmps)):=be
 rw[e,Lm]
 match rs,hv with
 |[],hv=>
  simp only[ua,Ep,Px,aO]at hv
  subst hv
  exact⟨.tuple #[],by simp[Sem.run,pure],[],ae,ae⟩
 |[x],hv=>
  obtain⟨u,hu,bW⟩:=XO aT h hv
  refine⟨u,?_,bW⟩
  simp[hu,Sem.run,pure]
 |x::y::r,hv=>
  simp only[ua,ct]at hv
  obtain⟨ss,qD,rfl⟩:=hv
  obtain⟨us,jc,yg,hlen⟩:=hl _ ss qD
  refine⟨.tuple us.toArray,?_,us,ae,yg⟩
  have h1:us.toArray.size≠1:=by simp[hlen]
  simp only[map_eq_pure_bind,bind_assoc,pure_bind,Sem.run_bind,jc,Result.andThen]
  rw[dif_neg h1]
  rfl
def aL(aT:cM P tt=true){fn:Func}{rs:List ResultVar}{r' r:AV}(hr:ua tt st rs=some r')(hle:au r' r)(fM:fn.results=rs.toArray:=by rfl)(hm:r.aD=[]:=by rfl):gq n .ret st (Ll P fn r):=by intro F hF g W a h sZ;obtain⟨u,hu,bW⟩:=BQ aT h fM hr;refine⟨h.defers.trans hF.ds,u,hu,u,g.H,ae,?_,h.le,λb o hb=>h.fresh b o hb (sZ b),h.sub,⟨h.below.os,h.below.tape,h.below.output,h.below.size,λk hk=>h.below.block k hk (sZ k)⟩⟩;exact(hle.1 _ _ bW).il hm (cF.refl _) jd
def ah'(aT:cM P tt=true){fn:Func}{rs:List ResultVar}{r' r:AV}(hr:ua tt st rs=some r')(hle:au r' r)(fM:fn.results=rs.toArray:=by rfl)(hm:r.aD=[]:=by rfl):gq n .normal st (Ll P fn r):=
 λF hF g W a h=>aL aT hr hle fM hm F hF g W a h
def ls:Nat→List AV→List (Nat×AV)
 |_,[]=>[]
 |i,v::vs=>(i,v)::ls (i+1) vs
def pK{g:Gh}:∀(vs:List AV)(us:List Value)(i:Nat),jt g vs us→∀t v,ao t (ls i vs)=some v→i≤t∧∃u,us[t-i]? =some u∧bP g v u∧∀id∈v.aD,id∈fN vs
 |[],_,i,_,t,v,h=>by simp[ls,ao]at h
 |x::vs,_,i,hr,t,v,h=>by
  obtain⟨u,r,rfl,h1,h2⟩:=hr;simp only[ls,ao]at h;split at h
  ·rename_i e;subst e;cases h;exact⟨bD _,u,by simp,h1,λid al=>by simp[fN,al]⟩
  ·obtain⟨h3,u',h4,h5,h6⟩:=pK vs r (i+1) h2 t v h;refine⟨by omega,u',?_,h5,λid al=>by simp[fN,h6 id al]⟩;rw[show t-i=(t-(i+1))+1 by omega];simpa using h4
def z'{g:Gh}:∀{vs:List AV}{us:List Value},jt g vs us→us.length=vs.length
 |[],_,h=>by simp only[jt]at h;subst h;rfl
 |_::vs,_,h=>by obtain⟨u,r,rfl,_,h2⟩:=h;simp[z' h2]
def aX{f:FuncId}{fn:Func}{c:Code}{args:List AV}{r:AV}(hf:P.funcs[f]? =some fn)(hb:fn.body=some c)(hN:fn.ntmps=n)(hle:Nat.ble args.length n=true)(mE:fN args=[])(BR:r.aD=[])(s8:(fn.name != "runtime.NumGoroutine")=true)
  (h:TR P n c ⟨ls 0 args,[],0,[]⟩ (Ll P fn r)):aG P f args r:=by
 refine⟨by simp[mD,hf,hb,s8],BR,?_⟩
 intro H W vs eL bW
 refine calls_of_wp hf hb ?_
 have hlen:=z' bW
 have hle:=cY hle
 refine wp_mono (h {w0:=W,H0:=H,n:=n} ⟨ae,bK _,ae,ae⟩ ⟨H,jd⟩ W _ ⟨?_,ae,?_,?_,?_,?_,?_,eL,⟨ae,ae,ae,bD _,λ_ _ _=>rfl⟩,cF.refl _,λ_ _ _ _=>rfl,λ_ h=>absurd h (zA _)⟩) (λe a W' hq=>hq (λ_ h=>h))
 ·simp[hN];omega
 ·intro t v ht;simp only[St.kn,ct]at ht;obtain⟨x,hx,he⟩:=ht;cases he;obtain⟨_,u,hu,hr,_⟩:=pK args vs 0 bW t v hx;have jm:vs[t]? =some u:=Ds;have br:t<vs.length:=(wA.1 jm).1;have:(vs.toArray++Array.replicate (fn.ntmps-vs.toArray.size) undef).getD t undef=u:=by rw[wy,Bd Gn];simp[jm]
  rw[this];exact hr
 ·intro id b e;simp[St.kn,ao]at e
 ·intro id b9 b b' k e;simp[St.kn,ao]at e
 ·intro k x e id al;cases k with
  |m j=>simp[St.kn,ao]at e
  |s t=>
   simp only[St.kn,ct]at e
   obtain⟨y,hy,he⟩:=e
   subst he
   obtain⟨_,u,_,_,h6⟩:=pK args vs 0 bW t y hy
   have:=h6 id al
   rw[mE]at this
   cases this
 ·intro id x e;simp[St.kn,ao]at e
end
def sR{l:List (Nat×AV)}{t:Nat}{v:AV}(h:ao t l=some v):∃x,ao t l=some x∧au x v:=⟨v,h,au.refl v⟩
def bR{l:List (Nat×aK)}{t:Nat}{v:aK}(h:ao t l=some v):∃x,ao t l=some x∧di x v:=⟨v,h,di.refl v⟩
def sE{l:List (Nat×AV)}{t:Nat}{w v:AV}(h:ao t l=some w)(e:w=v):∃x,ao t l=some x∧au x v:=⟨w,h,au.of_eq e⟩
def bE{l:List (Nat×aK)}{t:Nat}{w v:aK}(h:ao t l=some w)(e:w=v):∃x,ao t l=some x∧di x v:=⟨w,h,di.of_eq e⟩
def XQ{sl:List (Nat×AV)}:∀{l:List (Nat×AV)},l.map (λe=>ao e.1 sl)=l.map (λe=>some e.2)→ye sl l
 |[],_=>trivial
 | (t,v)::l,h=>⟨⟨v,(PF h).1,au.refl v⟩,XQ (PF h).2⟩
def XR{me:List (Nat×aK)}:∀{l:List (Nat×aK)},l.map (λe=>ao e.1 me)=l.map (λe=>some e.2)→iQ me l
 |[],_=>trivial
 | (t,v)::l,h=>⟨⟨v,(PF h).1,di.refl v⟩,XR (PF h).2⟩
def bY{st st':St}(h1:st'.sl.map (λe=>ao e.1 st.sl)=st'.sl.map (λe=>some e.2):=by rfl)(h2:st'.mem.map (λe=>ao e.1 st.mem)=st'.mem.map (λe=>some e.2):=by rfl)(hn:(sY (1000000*st'.nx) st'.sl&&nC (1000000*st'.nx) st'.mem&&(Nat.ble 1 st'.nx||Nat.ble st.nx 0))=true:=by rfl):Wk st st':=wk (XQ h1) (XR h2) hn
section
variable{P:Program}{tt:TT}
def XS{α:Type}(z:List α)(n i:Nat)(hi:i<n):(((List.replicate n z).flatten).drop (i*z.length)).take z.length=z:=by
 induction n generalizing i with
 |zero=>omega
 |succ n ih=>
  rw[wC,List.flatten_cons]
  cases i with
  |zero=>simp
  |succ i=>
   rw[show(i+1)*z.length=z.length+i*z.length by rw[fV];omega,←xW,List.drop_left]
   exact ih i af
def aia{α:Type}(z:List α)(n:Nat):(List.replicate n z).flatten.length=n*z.length:=be
def Qz(zs:List Value)(n:Nat)(hz:zs≠[]):(Array.range (n*zs.length)).map (λi=>zs.toArray[i%zs.toArray.size]!)=((List.replicate n zs).flatten).toArray:=by
 apply Array.ext
 ·simp
 ·intro i h1 h2;simp at h1;have hl:0<zs.length:=cZ.2 hz;have hm:i%zs.length<zs.length:=iy _ hl;simp only[Array.getElem_map,Array.getElem_range,List.size_toArray,List.getElem_toArray];rw[getElem!_pos _ _ (by simpa using hm),List.getElem_toArray];have hq:i/zs.length<n:=Pm (by rw[ix];exact h1);have hc:=XS zs n (i/zs.length) hq;have hi:i=i/zs.length*zs.length+i%zs.length:=by rw[ix];exact(xU i zs.length).symm
  have h3:(((List.replicate n zs).flatten.drop (i/zs.length*zs.length)).take zs.length)[i%zs.length]? =zs[i%zs.length]? :=by rw[hc]
  rw[Du hm,tM,←hi]at h3;rw[cr gY,cr hm]at h3;simp only[aO]at h3;exact h3.symm
def XT{ops:Array Oper}{i:Nat}{o:Oper}{d:Nat}(ho:ops[i]? =some o)(hg:o.guard=none)(hd:o.dst=some d){n:Nat}(aV:d<n){st:St}{E:TypeId}{T:ET}{xs:List T.den}(new:Nat)(hlen:xs.length*T.n≤140737488355328)
  (h:∀(F:de)(known:Nat→Prop)(σ:Kn)(g:Gh)(W:World)(a:Act),bJ F known σ g W a→(∀kx∈pE st o.op,σ kx.1=some kx.2)→
   ∃(vs:List Value)(cap:Nat)(W1:World),(execOp a.eval o).run P W= .ok (.value (.slice (some ⟨W.heap.size,0,none⟩) xs.length cap)) {W1 with heap:=W.heap.push (.cells vs.toArray E (0,0))}∧W1.os=W.os∧W1.tape=W.tape∧W1.output=W.output∧vs.length=cap*T.n∧xs.length≤cap∧
    ∀i(h:i<xs.length),dm g.H T xs[i] ((vs.drop (i*T.n)).take T.n)):
  ll P n ops i st ((st.pm new (.vec E T xs)).put d (.c (.X new))) new (cH o.op.operands.toList,[.s d,.m new]):=by
 refine⟨pE st o.op,[(.s d,some (.v (.c (.X new)))),(.m new,some (.b (.vec E T xs)))],?_,Ei st _,BI st d new _ _,fX st _,λk hk=>by simpa[fi]using hk⟩
 intro F gk Q known σ g W a K dX aJ bw hK
 obtain⟨vs,cap,W1,b7,e1,e2,e3,kS,hle,bW⟩:=h F known σ g W a aJ bw
 unfold wpOp
 simp only[ho,Region.wanted,hg,cP]
 refine .inl ?_
 unfold Oper.wp
 rw[b7]
 simp only[Oper.upon,hd]
 have cR:d<a.tmps.size:=rA
 let g':Gh:=⟨g.H,λid=>if id=new then .slice (some ⟨W.heap.size,0,none⟩) xs.length cap else g.γ id⟩
 have oO:iL known g g':=⟨cF.refl _,λid al=>by
  have:id≠new:=λe=>dX (e▸al)
  simp[g',this]⟩
 have x8:∀o,g.H W.heap.size o=none:=by
  intro o;cases hv:g.H W.heap.size o with
  |none=>rfl
  |some v=>
   have:=World.block_lt_of_cell? W _ (aJ.sub _ _ _ hv)
   simp at this
 have eL:Sub g.H {W1 with heap:=W.heap.push (.cells vs.toArray E (0,0))}:=by have:=Hg aJ.sub (.cells vs.toArray E (0,0));exact this
 refine hK g' _ _ (aJ.step (chg:=λ_=>False) (g':=g') ⟨oO,λ_ _ _=>rfl,eL,by simp,λk hk _=>Hf W _ k hk,e1,e2,e3⟩ _ new dX sC aJ.defers ?_ (λ_ h=>h.elim) ?_ ?_ ?_ ?_)
 ·intro t ht;have aR:d≠t:=tL;simp[Act.put,nT aR]
 ·intro t u ht;simp only[bc]at ht;split at ht
  ·rename_i e;simp only[Key.s.injEq]at e;simp only[aO,Info.v.injEq]at ht;subst e;subst ht;simp[Act.put,cR,bP,dt,g']
  ·split at ht
   ·simp at ht
   ·simp at ht
 ·intro id b ht;simp only[bc,reduceCtorEq,cV]at ht;split at ht
  ·rename_i e;simp only[Key.m.injEq]at e;subst e;simp only[aO,Info.b.injEq]at ht;subst ht;refine⟨.inr ⟨W.heap.size,cap,vs,by simp[g'],by simp,kS,hle,hlen,bW,.inl aJ.below.size,x8⟩,.inr ⟨ae,λk hk=> .inl ?_⟩⟩;simp only[g',cP,cQ,aO]at hk;omega
  ·simp at ht
 ·intro k y ht;simp only[bc]at ht;split at ht
  ·simp only[aO]at ht;subst ht;intro id al;simp[Info.aD,AV.aD,C.aD]at al;exact .inr al
  ·split at ht
   ·simp only[aO]at ht;subst ht;intro id al;simp[Info.aD,aK.aD]at al
   ·simp at ht
 ·intro id y ht;simp only[bc,reduceCtorEq,cV]at ht;split at ht
  ·rename_i e;simp only[Key.m.injEq]at e;exact .inr e.symm
  ·simp at ht
def XU{ops:Array Oper}{i:Nat}{o:Oper}{d:Nat}(ho:ops[i]? =some o)(hg:o.guard=none)(hd:o.dst=some d){n:Nat}(aV:d<n){st:St}{E:TypeId}{T:ET}{xs:List T.den}(new:Nat)(hlen:xs.length*T.n≤140737488355328)
  (h:∀(F:de)(known:Nat→Prop)(σ:Kn)(g:Gh)(W:World)(a:Act),bJ F known σ g W a→(∀kx∈pE st o.op,σ kx.1=some kx.2)→
   ∃(vs:List Value)(cap:Nat)(W1:World),(execOp a.eval o).run P W= .ok (.value (.slice (some ⟨W.heap.size,0,none⟩) xs.length cap)) {W1 with heap:=W.heap.push (.cells vs.toArray E (0,0))}∧W1.os=W.os∧W1.tape=W.tape∧W1.output=W.output∧vs.length=cap*T.n∧xs.length≤cap∧
    ∀i(h:i<xs.length),dm g.H T xs[i] ((vs.drop (i*T.n)).take T.n)):
  ll P n ops i st (st.put d (.c (.S T xs))) new (cH o.op.operands.toList,[.s d]):=by
 refine⟨pE st o.op,[(.s d,some (.v (.c (.S T xs))))],?_,Ei st _,n6 st d _,fX st _,λk hk=>by simpa[fi]using hk⟩
 intro F gk Q known σ g W a K dX aJ bw hK
 obtain⟨vs,cap,W1,b7,e1,e2,e3,kS,hle,bW⟩:=h F known σ g W a aJ bw
 unfold wpOp
 simp only[ho,Region.wanted,hg,cP]
 refine .inl ?_
 unfold Oper.wp
 rw[b7]
 simp only[Oper.upon,hd]
 have cR:d<a.tmps.size:=rA
 let g':Gh:=⟨λb o=>if b=W.heap.size then vs[o]? else g.H b o,g.γ⟩
 have x8:∀o,g.H W.heap.size o=none:=by
  intro o;cases hv:g.H W.heap.size o with
  |none=>rfl
  |some v=>
   have:=World.block_lt_of_cell? W _ (aJ.sub _ _ _ hv)
   simp at this
 have ud:cF g.H g'.H:=by
  intro b o v hv;by_cases e:b=W.heap.size
  ·subst e;rw[x8]at hv;cases hv
  ·simp[g',e,hv]
 have eL:Sub g'.H {W1 with heap:=W.heap.push (.cells vs.toArray E (0,0))}:=by
  intro b o v hv;by_cases e:b=W.heap.size
  ·subst e;simp only[g',cP]at hv;simp[World.cell?,hv]
  ·simp only[g',e,cV]at hv;exact Hg aJ.sub (.cells vs.toArray E (0,0)) b o v hv
 refine hK g' _ _ (aJ.step (chg:=λ_=>False) (g':=g') ⟨⟨ud,λ_ _=>rfl⟩,?_,eL,by simp,λk hk _=>Hf W _ k hk,e1,e2,e3⟩ _ new dX sC aJ.defers ?_ (λ_ h=>h.elim) ?_ ?_ ?_ ?_)
 ·intro b o hb;have:b≠W.heap.size:=af;simp[g',this]
 ·intro t ht;have aR:d≠t:=tL;simp[Act.put,nT aR]
 ·intro t u ht;simp only[bc]at ht;split at ht
  ·rename_i e;simp only[Key.s.injEq]at e;simp only[aO,Info.v.injEq]at ht;subst e;subst ht;have vn:(a.put (some d) (.slice (some ⟨W.heap.size,0,none⟩) xs.length cap)).tmps.getD d undef= .slice (some ⟨W.heap.size,0,none⟩) xs.length cap:=by simp[Act.put,cR]
   rw[vn];refine⟨_,cap,ae,hle,hlen,?_⟩;by_cases hx:xs=[]
   ·exact .inl hx
   ·refine .inr ⟨W.heap.size,0,ae,λk hk=>⟨(vs.drop (k*T.n)).take T.n,dm.length T _ _ (bW k hk),dm.mono ud T _ _ (bW k hk),λj hj=>?_⟩⟩;have dR:(k+1)*T.n≤cap*T.n:=eJ _ af;rw[fV,jb]at dR;simp only[fI,DH]at hj;simp only[g',cP,eZ,uW,wF];exact cr af
  ·simp at ht
 ·intro id b ht;simp[bc]at ht
 ·intro k y ht;simp only[bc]at ht;split at ht
  ·simp only[aO]at ht;subst ht;intro id al;simp[Info.aD,AV.aD,C.aD]at al
  ·simp at ht
 ·intro id y ht;simp[bc]at ht
def aib(aT:cM P tt=true){ops:Array Oper}{i:Nat}{o:Oper}{d:Nat}(ho:ops[i]? =some o)(hg:o.guard=none)(hd:o.dst=some d){n:Nat}(aV:d<n){t:TypeId}{x:Operand}(ck:o.op= .makeSlice t x x)
  {st:St} {m:Nat} {k:IntKind} (hx:st.ev x=some (.c (.I k (m:Int)))) {E:Nat} {ti ei:TI} (fA:ao t tt=some ti) (hk:ti.kind= .sl E) (jN:ao E tt=some ei) (T:ET) (kR:ei.size=T.n)
  (hz:∀g:Gh,bU g (av T T.eR) (ei.zero.map ZV.gj)) (hb:m*ei.bytes≤281474976710656) (dO:m*T.n≤140737488355328) (new:Nat):
  ll P n ops i st ((st.pm new (.vec E T (List.replicate m T.eR))).put d (.c (.X new))) new (cH o.op.operands.toList,[.s d,.m new]):=by
 refine XT ho hg hd aV new (by simpa using dO) ?_
 intro F known σ g W a aJ bw
 have hr:a.eval x= .int k (m:Int):=gI aJ st x _ hx (λkx aS=>bw kx Wi)
 have hu:=(gR aT fA).kind
 rw[hk]at hu
 obtain⟨inf,lO,s9,yh,z,yi,qw⟩:=(gR aT jN).info
 have Hp:(ei.zero.map ZV.gj).length=T.n:=dm.length T _ _ (zK T _ _ (hz g))
 have vg:z.cells=(ei.zero.map ZV.gj).toArray:=Gm
 have QA:(ei.zero.map ZV.gj)≠[]:=by intro e;rw[e]at Hp;have:=T.DP;simp at Hp;omega
 have qE:m*1≤m*T.n:=lJ m T.DP
 have QB:(inf.bytes:Int)*(m:Int)≤281474976710656:=by
  rw[yh];have:(ei.bytes:Int)*(m:Int)=((m*ei.bytes:Nat):Int):=by rw[ix];simp
  rw[this];omega
 have b7:=run_make (P:=P) W t E inf z hu lO yi k k m m af af QB af
 refine⟨(List.replicate m (ei.zero.map ZV.gj)).flatten,m,W,?_,ae,ae,ae,?_,by simp,?_⟩
 ·rw[execOp,ck];have BS:madeCells z.cells (m*inf.size)=((List.replicate m (ei.zero.map ZV.gj)).flatten).toArray:=by rw[s9,kR,vg,←Hp,←Qz _ m QA];rfl
  simp only[bu]at b7;rw[BS]at b7;simp only[hr,Sem.run_bind,b7,Result.andThen,jy];rfl
 ·rw[aia,Hp]
 ·intro j hj;simp only[jy]at hj;have:=XS (ei.zero.map ZV.gj) m j hj;rw[Hp]at this;rw[this,List.getElem_replicate];exact zK T _ _ (hz g)
end
section
variable{P:Program}{tt:TT}{n:Nat}{Q:fG}{st:St}
def yj(id:Nat)(T:ET)(xs:List T.den):C→C
 | .X j=>if j=id then .S T xs else .X j
 | .Y j m i off=>if j=id then .any else .Y j m i off
 |c=>c
def yk(id:Nat)(T:ET)(xs:List T.den):List C→List C
 |[]=>[]
 |c::r=>yj id T xs c::yk id T xs r
def Hq(id:Nat)(T:ET)(xs:List T.den):List (Bool×List C)→List (Bool×List C)
 |[]=>[]
 | (b,cs)::r=>(b,yk id T xs cs)::Hq id T xs r
def Hr(id:Nat)(T:ET)(xs:List T.den):AV→AV
 | .c x=> .c (yj id T xs x)
 | .a cs=> .a (yk id T xs cs)
 | .t ss=> .t (Hq id T xs ss)
def wX(id:Nat)(T:ET)(xs:List T.den):List (Nat×AV)→List (Nat×AV)
 |[]=>[]
 | (t,v)::r=>(t,Hr id T xs v)::wX id T xs r
def Hs(id:Nat)(T:ET)(xs:List T.den):aK→aK
 | .box E bz cs=> .box E bz (yk id T xs cs)
 |b=>b
def m8(id:Nat)(T:ET)(xs:List T.den):List (Nat×aK)→List (Nat×aK)
 |[]=>[]
 | (j,b)::r=>if j=id then m8 id T xs r else(j,Hs id T xs b)::m8 id T xs r
def XV(id:Nat)(T:ET)(xs:List T.den)(t:Nat):∀l,ao t (wX id T xs l)=(ao t l).map (Hr id T xs)
 |[]=>rfl
 | (k,v)::r=>by
  simp only[wX,ao];split
  ·rfl
  ·exact XV id T xs t r
def QC(id:Nat)(T:ET)(xs:List T.den)(t:Nat):∀l,ao t (m8 id T xs l)=if t=id then none else(ao t l).map (Hs id T xs)
 |[]=>by simp[m8,ao]
 | (k,v)::r=>by
  simp only[m8,ao];split
  ·rename_i e;subst e;rw[QC k T xs t r];split
   ·rfl
   ·rename_i h;rw[aq (λe=>h e.symm)]
  ·rename_i e;simp only[ao];split
   ·rename_i e2;subst e2;rw[aq e];rfl
   ·exact QC id T xs t r
def XW(id:Nat)(T:ET)(xs:List T.den)(c:C):∀j∈(yj id T xs c).aD,j∈c.aD:=by
 intro j hj;cases c with
 |X k=>simp only[yj]at hj;split at hj;simp[C.aD]at hj;exact hj
 |Y k m i off=>simp only[yj]at hj;split at hj;simp[C.aD]at hj;exact hj
 |_=>exact hj
def Ln(id:Nat)(T:ET)(xs:List T.den):∀(cs:List C),∀j∈cD (yk id T xs cs),j∈cD cs
 |[],j,h=>h
 |c::cs,j,h=>by simp only[yk,cD,b6]at h⊢;exact h.imp (XW id T xs c j) (Ln id T xs cs j)
def XX(id:Nat)(T:ET)(xs:List T.den):∀(cs:List (Bool×List C)),∀j∈fJ (Hq id T xs cs),j∈fJ cs
 |[],j,h=>h
 | (b,c)::cs,j,h=>by simp only[Hq,fJ,b6]at h⊢;exact h.imp (Ln id T xs c j) (XX id T xs cs j)
def aic(id:Nat)(T:ET)(xs:List T.den)(v:AV):∀j∈(Hr id T xs v).aD,j∈v.aD:=by
 cases v with
 |c x=>exact XW id T xs x
 |a cs=>exact Ln id T xs cs
 |t ss=>exact XX id T xs ss
section
variable{id:Nat}{T:ET}{xs:List T.den}{known:Nat→Prop}{g g':Gh}
def QD(hl:iL known g g')(hX:nt (dm g'.H T) T.n g'.H xs (g.γ id)):∀{c:C}{v:Value},(∀j∈c.aD,known j)→dt g c v→dt g' (yj id T xs c) v:=by
 intro c v hk h;cases c with
 |X k=>
  simp only[yj]
  split
  ·rename_i e;subst e;simp only[dt]at h;subst h;exact hX
  ·exact dt.mono hl hk h
 |Y k m i off=>
  simp only[yj]
  split
  ·trivial
  ·exact dt.mono hl hk h
 |_=>exact dt.mono hl hk h
def Lo(hl:iL known g g')(hX:nt (dm g'.H T) T.n g'.H xs (g.γ id)):∀{cs:List C}{vs:List Value},(∀j∈cD cs,known j)→bU g cs vs→bU g' (yk id T xs cs) vs
 |[],_,_,h=>h
 |_::_,_,hk,h=>by obtain⟨v,r,e,h1,h2⟩:=h;exact⟨v,r,e,QD hl hX (λj hj=>hk j (by simp[cD,hj])) h1,Lo hl hX (λj hj=>hk j (by simp[cD,hj])) h2⟩
def XY(hl:iL known g g')(hX:nt (dm g'.H T) T.n g'.H xs (g.γ id)):∀{cs:List (Bool×List C)}{vs:List Value},(∀j∈fJ cs,known j)→dv g cs vs→dv g' (Hq id T xs cs) vs
 |[],_,_,h=>h
 | (b,c)::_,_,hk,h=>by
  obtain⟨v,r,e,h1,h2⟩:=h;refine⟨v,r,e,?_,XY hl hX (λj hj=>hk j (by simp[fJ,hj])) h2⟩;have dx:∀j∈cD c,known j:=λj hj=>hk j (by simp[fJ,hj])
  match b,c,h1 with
  |true,c,h1=>obtain⟨vs,e,h⟩:=h1;exact⟨vs,e,Lo hl hX dx h⟩
  |false,[c],h1=>exact QD hl hX (λj hj=>dx j (by simp[cD,hj])) h1
def aid(hl:iL known g g')(hX:nt (dm g'.H T) T.n g'.H xs (g.γ id)){x:AV}{v:Value}(hk:∀j∈x.aD,known j)(h:bP g x v):bP g' (Hr id T xs x) v:=by
 cases x with
 |c y=>exact QD hl hX hk h
 |a cs=>obtain⟨vs,e,h⟩:=h;exact⟨vs,e,Lo hl hX hk h⟩
 |t ss=>obtain⟨vs,e,h⟩:=h;exact⟨vs,e,XY hl hX hk h⟩
end
def oP(id:Nat){E:TypeId}{T:ET}{xs:List T.den}{sl:List (Nat×AV)}{mem:List (Nat×aK)}{nx:Nat}{gd:List (Nat×Bool)}(hl:ao id mem=some (.vec E T xs)):Wk ⟨sl,mem,nx,gd⟩ ⟨wX id T xs sl,m8 id T xs mem,nx,gd⟩:=by
 intro F gV g W a h;have al:St.kn ⟨sl,mem,nx,gd⟩ (.m id)=some (.b (.vec E T xs)):=by simp[St.kn,hl]
 have jO:=h.df id _ al;have main:∀g':Gh,iL (kb ⟨sl,mem,nx,gd⟩) g g'→nt (dm g'.H T) T.n g'.H xs (g.γ id)→Sub g'.H W→(∀b o,b<F.w0.heap.size→¬F.own b→g'.H b o=F.H0 b o)→(∀b o,cQ (g.γ id)≠some b→g'.H b o=g.H b o)→g'.γ=g.γ→
   bJ F (kb ⟨wX id T xs sl,m8 id T xs mem,nx,gd⟩) (St.kn ⟨wX id T xs sl,m8 id T xs mem,nx,gd⟩) g' W a:=by
  intro g' hle hX eL lR hH hγ
  have hS:∀t v',St.kn ⟨wX id T xs sl,m8 id T xs mem,nx,gd⟩ (.s t)=some (.v v')→∃v,St.kn ⟨sl,mem,nx,gd⟩ (.s t)=some (.v v)∧v'=Hr id T xs v:=by intro t v' e;simp only[St.kn,XV,Option.map_map,ct]at e;obtain⟨v,hv,he⟩:=e;cases he;exact⟨v,by simp[St.kn,hv],ae⟩
  have hM:∀j b',St.kn ⟨wX id T xs sl,m8 id T xs mem,nx,gd⟩ (.m j)=some (.b b')→∃b,St.kn ⟨sl,mem,nx,gd⟩ (.m j)=some (.b b)∧b'=Hs id T xs b∧j≠id:=by
   intro j b' e;simp only[St.kn,QC]at e;split at e
   ·simp at e
   ·rename_i aR;simp only[Option.map_map,ct]at e;obtain⟨b,hb,he⟩:=e;cases he;exact⟨b,by simp[St.kn,hb],ae,aR⟩
  refine⟨h.size,h.defers,?_,?_,?_,?_,?_,eL,h.below,h.le.trans hle.H,lR,λid al=>⟨(h.iz id al).1,by rw[hγ];exact(h.iz id al).2⟩⟩
  ·intro t v' e;obtain⟨v,hv,rfl⟩:=hS t v' e;exact aid hle hX (λj hj=>h.aD _ _ hv j hj) (h.gG t v hv)
  ·intro j b' e;obtain⟨b,hb,rfl,aR⟩:=hM j b' e;have hr:=h.df j b hb;have QE:∀k,cQ (g.γ j)=some k→cQ (g.γ id)≠some k:=λk hk dx=>aR (h.inj j id b _ k hb al hk dx)
   cases b with
   |box E' bz cs=>
    obtain⟨k,vs,rest,e1,e2,e3,e4,e5,e6⟩:=hr
    exact⟨k,vs,rest,by rw[hγ];exact e1,e2,Lo hle hX (λi hi=>h.aD _ _ hb i hi) e3,e4,λo=>by rw[hH k o (QE k e1)];exact e5 o,by rw[hγ];exact e6⟩
   |vec E' T' ys=>
    rcases hr with⟨e1,e2⟩|⟨k,cap,vs,e1,e2,e3,e4,Lp,e5,e6,e7⟩
    ·exact .inl ⟨by rw[hγ];exact e1,e2⟩
    ·exact .inr ⟨k,cap,vs,by rw[hγ];exact e1,e2,e3,e4,Lp,λi hi=>dm.mono hle.H _ _ _ (e5 i hi),e6,λo=>by rw[hH k o (QE k (by rw[e1];rfl))];exact e7 o⟩
   |fW f first caps=>
    obtain⟨us,ws,e1,e2,e3⟩:=hr
    exact⟨us,ws,by rw[hγ];exact e1,dv.mono hle (λi hi=>h.aD _ _ hb i (fS _ hi)) e2,dv.mono hle (λi hi=>h.aD _ _ hb i (j9 _ hi)) e3⟩
   |fz E' cs=>
    obtain⟨k,vs,rest,e1,e2,e3,e4,e5⟩:=hr
    exact⟨k,vs,rest,by rw[hγ];exact e1,e2,bU.mono hle (λi hi=>h.aD _ _ hb i hi) e3,e4,λo=>by rw[hH k o (QE k e1)];exact e5 o⟩
  ·intro i j b b' k e e' hk dx;obtain⟨c,hc,_⟩:=hM i b e;obtain⟨c',pI,_⟩:=hM j b' e';rw[hγ]at hk dx;exact h.inj i j c c' k hc pI hk dx
  ·intro k x e j hj;cases k with
   |s t=>
    cases x with
    |v v'=>obtain⟨v,hv,rfl⟩:=hS t v' e;exact h.aD _ _ hv j (aic id T xs v j hj)
    |b b'=>simp only[St.kn,ct]at e;obtain⟨_,_,he⟩:=e;cases he
   |m i=>
    cases x with
    |v v'=>simp only[St.kn,ct]at e;obtain⟨_,_,he⟩:=e;cases he
    |b b'=>
     obtain⟨b,hb,rfl,_⟩:=hM i b' e
     refine h.aD _ _ hb j ?_
     cases b with
     |box E' bz cs=>exact Ln id T xs cs j hj
     |vec E' T' ys=>exact hj
     |fW f first caps=>exact hj
     |fz E' cs=>exact hj
  ·intro i x e;cases x with
   |v v'=>simp only[St.kn,ct]at e;obtain⟨_,_,he⟩:=e;cases he
   |b b'=>obtain⟨b,hb,_⟩:=hM i b' e;exact h.fF _ _ hb
 rcases jO with⟨hγ,hx⟩|⟨b,cap,vs,hγ,hh,kS,hle,hlen,hr,hN,hz⟩
 ·refine⟨g,main g ⟨cF.refl _,λ_ _=>rfl⟩ ?_ h.sub h.fresh (λ_ _ _=>rfl) ae⟩;subst hx;exact⟨none,0,hγ,by simp,by simp,.inl ae⟩
 ·let g':Gh:=⟨λb' o=>if b'=b then(if o<xs.length*T.n then vs[o]? else none)else g.H b' o,g.γ⟩;have ud:cF g.H g'.H:=by
   intro b' o v hv;by_cases e:b'=b
   ·subst e;rw[hz]at hv;cases hv
   ·simp[g',e,hv]
  refine⟨g',main g' ⟨ud,λ_ _=>rfl⟩ ?_ ?_ ?_ ?_ ae⟩
  ·refine⟨some ⟨b,0,none⟩,cap,hγ,hle,hlen,?_⟩;by_cases hx:xs=[]
   ·exact .inl hx
   ·refine .inr ⟨b,0,ae,λk hk=>⟨(vs.drop (k*T.n)).take T.n,dm.length T _ _ (hr k hk),dm.mono ud T _ _ (hr k hk),λj hj=>?_⟩⟩;have dR:(k+1)*T.n≤cap*T.n:=eJ _ af;have Er:(k+1)*T.n≤xs.length*T.n:=eJ _ af;rw[fV,jb]at dR Er;simp only[fI,DH]at hj;have br:k*T.n+j<xs.length*T.n:=af;simp only[g',cP,eZ,uW,wF,br];exact cr af
  ·intro b' o v hv;by_cases e:b'=b
   ·subst e;simp only[g',cP]at hv;split at hv
    ·simp[World.cell?,hh,hv]
    ·cases hv
   ·simp only[g',e,cV]at hv;exact h.sub b' o v hv
  ·intro b' o du dY;have:b'≠b:=by
    intro e;subst e;rcases hN with h1|h1
    ·omega
    ·exact dY h1
   simp only[g',this,cV];exact h.fresh b' o du dY
  ·intro b' o du;have:b'≠b:=λe=>du (by rw[hγ,e];rfl)
   simp[g',this]
def fY(id:Nat){E:TypeId}{T:ET}{xs:List T.den}{c:Code}{sl:List (Nat×AV)}{mem:List (Nat×aK)}{nx:Nat}{gd:List (Nat×Bool)}(hl:ao id mem=some (.vec E T xs)){sl':List (Nat×AV)}{mem':List (Nat×aK)}(hs:wX id T xs sl=sl')(hm:m8 id T xs mem=mem')
  (h:TR P n c ⟨sl',mem',nx,gd⟩ Q):TR P n c ⟨sl,mem,nx,gd⟩ Q:=by
 subst hs hm
 exact dy (oP id hl) h
def Aa(t:Nat){T:ET}{xs:List T.den}{c:Code}{sl:List (Nat×AV)}{mem:List (Nat×aK)}{nx:Nat}{gd:List (Nat×Bool)}(hl:ao t sl=some (.c (.S T xs)))(h:xs.length*T.n≤140737488355328→TR P n c ⟨sl,mem,nx,gd⟩ Q):TR P n c ⟨sl,mem,nx,gd⟩ Q:=by intro F hF g W a hh;have h1:dt g (.S T xs) (a.tmps.getD t undef):=hh.gG t (.c (.S T xs)) (by simp[St.kn,hl]);obtain⟨_,_,_,_,h2,_⟩:=h1;exact h h2 F hF g W a hh
def aie{ops:Array Oper}{draw:Bool}{nx i:Nat}{d t:Nat}{x:Operand}{ty:TypeId}{pos:String}{cJ:Array Edge}{os:List Oper}{sl:List (Nat×AV)}{mem:List (Nat×aK)}{n0:Nat}{gd:List (Nat×Bool)}{ks:List Ks}{Q:St→Prop}(aT:cM P tt=true)
  (T:ET) (m:Nat) {k:IntKind} {v:Int} (hx:St.ev ⟨sl,mem,n0,gd⟩ x=some (.c (.I k v))) (hv:v=(m:Int)) {E:Nat} {ti ei:TI} (fA:ao t tt=some ti) (hk:ti.kind= .sl E) (jN:ao E tt=some ei) (kR:ei.size=T.n)
  (hz:∀g:Gh,bU g (av T T.eR) (ei.zero.map ZV.gj)) (hb:m*ei.bytes≤281474976710656) (dO:m*T.n≤140737488355328)
  (h:RG P n ops draw nx (i+1) os ⟨(d,.c (.X (1000000*nx+1000*i)))::sl,(1000000*nx+1000*i,.vec E T (List.replicate m T.eR))::mem,n0,gd⟩ (fp draw ks (cH [x,x],[.s d,.m (1000000*nx+1000*i)])) Q) (aV:Nat.blt d n=true:=by rfl):
  RG P n ops draw nx i (⟨some d,.makeSlice t x x,ty,pos,cJ,none⟩::os) ⟨sl,mem,n0,gd⟩ ks Q:=by
 subst hv
 exact kT (λho=>aib aT ho ae ae (cY aV) ae hx fA hk jN T kR hz hb dO _) (jD h)
def BT{ops:Array Oper}{draw:Bool}{nx i:Nat}{t:Nat}{x y:Operand}{ty:TypeId}{pos:String}{cJ:Array Edge}{os:List Oper}{sl:List (Nat×AV)}{mem:List (Nat×aK)}{n0:Nat}{gd:List (Nat×Bool)}{ks:List Ks}{Q:St→Prop}(aT:cM P tt=true)
  {id m k:Nat} {E:TypeId} {T:ET} {xs:List T.den} {vy:AV} (hx:St.ev ⟨sl,mem,n0,gd⟩ x=some (.c (.Y id m k 0))) (hl:ao id mem=some (.vec E T xs)) (hy:St.ev ⟨sl,mem,n0,gd⟩ y=some vy) (hm:T.n=m) {ag:Bool} (ki:qv tt t=some (m,ag)) (e:T.den) (dQ:js vy=some (av T e)) (hk:k<xs.length)
  (h:RG P n ops draw nx (i+1) os ⟨sl,(id,.vec E T (xs.set k e))::mem,n0,gd⟩ (fp draw ks (cH [x,y]++fB [id],[.m id])) Q):
  RG P n ops draw nx i (⟨none,.store t x y,ty,pos,cJ,none⟩::os) ⟨sl,mem,n0,gd⟩ ks Q:=by
 refine kT (λho=>⟨_,_,XC aT ho ae ae ae hx hy hl hm ki dQ hk _,?_,Ld ⟨sl,mem,n0,gd⟩ id _,?_,λk hk=>by simpa[fi]using hk⟩) (jD h)
 ·intro kx aS;rcases b6.1 aS with h|h
  ·rcases b6.1 h with h|h
   ·exact gn _ x kx h
   ·exact gn _ y kx h
  ·exact rQ _ [id] kx h
 ·intro k hk;simp only[dT,eh,b6]at hk;rcases hk with(h|h)|h
  ·exact fS _ (fX ⟨sl,mem,n0,gd⟩ [x,y] k zk)
  ·exact fS _ (fX ⟨sl,mem,n0,gd⟩ [x,y] k zm)
  ·exact j9 _ (qC ⟨sl,mem,n0,gd⟩ [id] k h)
end
section
variable{P:Program}{tt:TT}{n:Nat}
def Lq:∀(T:ET)(x:T.den),(av T x).length=T.n
 | .int _,_=>rfl
 | .bool,_=>rfl
 | .z,_=>rfl
 | .q,_=>rfl
 | .sl _,_=>rfl
 | .pr A B,x=>by simp[av,Lq A,Lq B]
def XZ{g:Gh}(T:ET):∀(xs:List T.den)(vs:List Value),bU g (xs.flatMap (av T)) vs→∀i(h:i<xs.length),dm g.H T xs[i] ((vs.drop (i*T.n)).take T.n)
 |[],_,_,i,h=>by simp at h
 |x::xs,vs,hr,i,h=>by
  rw[gN]at hr;obtain⟨a,b,rfl,h1,h2⟩:=GP hr;have hl:a.length=T.n:=by rw[h1.length,Lq]
  cases i with
  |zero=>
   simp only[Bp,uY,xO]
   rw[Bc af,lI af]
   exact zK T x a h1
  |succ i=>
   simp only[Gw]
   rw[show(i+1)*T.n=a.length+i*T.n by rw[fV,jb];omega,←xW,List.drop_left]
   exact XZ T xs b h2 i cq
def yl(sz:Nat):Nat→Nat→List (Nat×Nat)
 |_,0=>[]
 |k,m+1=>(k*sz,sz)::yl sz (k+1) m
def QF(sz:Nat):∀(m k i:Nat)(x:Nat×Nat),(yl sz k m)[i]? =some x→x=((k+i)*sz,sz)
 |0,_,_,_,h=>by simp[yl]at h
 |m+1,k,0,x,h=>by simp[yl]at h;simp[←h]
 |m+1,k,i+1,x,h=>by simp only[yl,Dv]at h;have:=QF sz m (k+1) i x h;rw[this,show k+1+i=k+(i+1)by omega]
def yn(l:List C):Nat→List C
 |0=>[]
 |m+1=>l++yn l m
def QG{g:Gh}{l:List C}{vs:List Value}(h:bU g l vs):∀m,bU g (yn l m) ((List.replicate m vs).flatten)
 |0=>rfl
 |m+1=>by rw[wC,List.flatten_cons];exact bU.append h (QG h m)
def QH{l:List C}(h:cD l=[]):∀m,cD (yn l m)=[]
 |0=>rfl
 |m+1=>by
  have:=QH h m;apply List.eq_nil_iff_forall_not_mem.2;intro id al;rcases K6 _ _ id al with h1|h1
  ·rw[h]at h1;cases h1
  ·rw[this]at h1;cases h1
def BU(tt:TT)(st:St)(t len:Nat)(parts:List (Nat×Operand)):Option (Nat×TI×List C):=match ao t tt with
 |some ti=>(match ti.kind with
  | .sl E=>(match ao E tt with
   |some ei=>(match BG (yl ei.size 0 len) st (yn (ei.zero.map ZV.sU) len) parts with
    |some cs=>some (E,ei,cs)
    |none=>none)
   |none=>none)
  |_=>none)
 |none=>none
def QI(aT:cM P tt=true){F:de}{known:Nat→Prop}{σ:Kn}{g:Gh}{W:World}{a:Act}(aJ:bJ F known σ g W a){st:St}{o:Oper}{t len:Nat}{parts:Array (Nat×Operand)}(ck:o.op= .buildSlice t len parts){E:Nat}{ei:TI}{T:ET}{xs:List T.den}(hT:ei.size=T.n)(n7:xs.length=len)(tc:len*T.n≤16777216)
  (hv:BU tt st t len parts.toList=some (E,ei,xs.flatMap (av T))) (bw:∀kx∈pE st o.op,σ kx.1=some kx.2):
  ∃(vs:List Value)(cap:Nat)(W1:World),(execOp a.eval o).run P W= .ok (.value (.slice (some ⟨W.heap.size,0,none⟩) xs.length cap)) {W1 with heap:=W.heap.push (.cells vs.toArray E (0,0))}∧W1.os=W.os∧W1.tape=W.tape∧W1.output=W.output∧vs.length=cap*T.n∧xs.length≤cap∧
    ∀i(h:i<xs.length),dm g.H T xs[i] ((vs.drop (i*T.n)).take T.n):=by
 unfold BU at hv
 split at hv
 ·rename_i ti fA;split at hv
  ·rename_i E' hk;split at hv
   ·rename_i pL jN;split at hv
    ·rename_i cs dQ;simp only[aO,cE]at hv;obtain⟨rfl,rfl,rfl⟩:=hv;have hu:=(gR aT fA).kind;rw[hk]at hu;obtain⟨inf,lO,s9,_,z,hz,qw⟩:=(gR aT jN).info;have vg:z.cells=(pL.zero.map ZV.gj).toArray:=Gm;obtain⟨us,tW,nw,hu3,Lc⟩:=K8 aJ st (yl pL.size 0 len) (λi=>some (i*pL.size,pL.size)) (λi x h=>by rw[QF _ _ _ _ _ h];simp) parts.toList _ _ _ dQ (QG (Ed g pL.zero) len) (λp hp kx aS=>bw kx (by rw[ck];refine jK.2 ⟨p.2,?_,aS⟩;simp only[Op.operands,nW];exact⟨p,hp,ae⟩)) (by rw[QH (La _)];simp);have g9:=nw.length;have oQ:∀ys:List T.den,(ys.flatMap (av T)).length=ys.length*T.n:=by
      intro ys;induction ys with
      |nil=>simp
      |cons y ys ih=>simp[Lq,ih,fV,KH]
     rw[oQ]at g9;refine⟨us,xs.length,W,?_,ae,ae,ae,g9,bD _,XZ T xs us nw⟩;have lM:execOp a.eval o=(do pure (.value (←Instr.buildSlice t len (parts.map λ(i,x)=>(i,a.eval x))))):=zj;have jM:(parts.map λ(i,x)=>(i,a.eval x)).toList=parts.toList.map λp=>(p.1,a.eval p.2):=be
     have lA:(pL.zero.map ZV.gj).length=pL.size:=by simpa using(gR aT jN).P2
     have pM:0<pL.size:=by rw[hT];exact T.DP
     have zY:(zeroValue E').run P W= .ok z W:=by simp[zeroValue,typeInfo,lO,hz]
     have BS:((Array.range (len*pL.size)).map (λi=>(pL.zero.map ZV.gj).toArray[i%(pL.zero.map ZV.gj).toArray.size]!))=((List.replicate len (pL.zero.map ZV.gj)).flatten).toArray:=by have:=Qz (pL.zero.map ZV.gj) len (by intro e;rw[e]at lA;simp at lA;omega);rw[lA]at this;exact this
     have hb:(Instr.buildSlice t len (parts.map λ(i,x)=>(i,a.eval x))).run P W= .ok (.slice (some ⟨W.heap.size,0,none⟩) len len) {W with heap:=W.heap.push (.cells us.toArray E' (0,0))}:=by
      unfold Instr.buildSlice;rw[Sem.run_bind,run_underlying hu];simp only[Result.andThen];rw[Sem.run_bind,run_sizeOf lO];simp only[Result.andThen,s9];rw[aq (by rw[hT];omega)];by_cases X0:len*pL.size=0
      ·have aif:len=0:=by
        rcases Nat.mul_eq_zero.1 X0 with h|h
        ·exact h
        ·omega
       subst aif;have jc:us=[]:=iu (by rw[g9,n7];simp);subst jc;have X1:=tW;simp only[wD,List.flatten_nil]at X1;have vo:∀f:Nat→Value,(Array.range 0).map f= #[]:=λf=>by simp
       simp only[Bp,cP,pure_bind,vo,jM,X1];rfl
      ·rw[aq X0];simp only[pure_bind,Sem.run_bind,zY,Result.andThen,vg,BS,jM,tW];rfl
     rw[lM,Sem.run_bind,hb,n7];rfl
    ·simp at hv
   ·simp at hv
  ·simp at hv
 ·simp at hv
def aih{ops:Array Oper}{draw:Bool}{nx i:Nat}{d t len:Nat}{parts:Array (Nat×Operand)}{ty:TypeId}{pos:String}{cJ:Array Edge}{os:List Oper}{sl:List (Nat×AV)}{mem:List (Nat×aK)}{n0:Nat}{gd:List (Nat×Bool)}{ks:List Ks}{Q:St→Prop}(aT:cM P tt=true)
  (T:ET) (xs:List T.den) {E:Nat} {ei:TI} (hv:BU tt ⟨sl,mem,n0,gd⟩ t len parts.toList=some (E,ei,xs.flatMap (av T))) (hT:ei.size=T.n) (n7:xs.length=len) (tc:Nat.ble (len*T.n) 16777216=true)
  (h:RG P n ops draw nx (i+1) os ⟨(d,.c (.S T xs))::sl,mem,n0,gd⟩ (fp draw ks (cH (Op.buildSlice t len parts).operands.toList,[.s d])) Q) (aV:Nat.blt d n=true:=by rfl):
  RG P n ops draw nx i (⟨some d,.buildSlice t len parts,ty,pos,cJ,none⟩::os) ⟨sl,mem,n0,gd⟩ ks Q:=
 kT (λho=>XU ho ae ae (cY aV) _ Wj (λ_ _ _ _ _ _ aJ bw=>QI aT aJ ae hT n7 (cY tc) hv bw)) (jD h)
def aii{ops:Array Oper}{draw:Bool}{nx i:Nat}{d t len:Nat}{parts:Array (Nat×Operand)}{ty:TypeId}{pos:String}{cJ:Array Edge}{os:List Oper}{sl:List (Nat×AV)}{mem:List (Nat×aK)}{n0:Nat}{gd:List (Nat×Bool)}{ks:List Ks}{Q:St→Prop}(aT:cM P tt=true)
  (T:ET) (xs:List T.den) {E:Nat} {ei:TI} (hv:BU tt ⟨sl,mem,n0,gd⟩ t len parts.toList=some (E,ei,xs.flatMap (av T))) (hT:ei.size=T.n) (n7:xs.length=len) (tc:Nat.ble (len*T.n) 16777216=true)
  (h:RG P n ops draw nx (i+1) os ⟨(d,.c (.X (1000000*nx+1000*i)))::sl,(1000000*nx+1000*i,.vec E T xs)::mem,n0,gd⟩ (fp draw ks (cH (Op.buildSlice t len parts).operands.toList,[.s d,.m (1000000*nx+1000*i)])) Q) (aV:Nat.blt d n=true:=by rfl):
  RG P n ops draw nx i (⟨some d,.buildSlice t len parts,ty,pos,cJ,none⟩::os) ⟨sl,mem,n0,gd⟩ ks Q:=
 kT (λho=>XT ho ae ae (cY aV) _ Wj (λ_ _ _ _ _ _ aJ bw=>QI aT aJ ae hT n7 (cY tc) hv bw)) (jD h)
end
end Go.El
