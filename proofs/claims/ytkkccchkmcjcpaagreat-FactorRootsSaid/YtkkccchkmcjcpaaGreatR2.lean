/- The engine, part 11b: reading and writing vectors. Own work; no condition. -/
import Derived.KernelRfl
import Derived.Deep.DeepAppendWide
import Derived.Test.YtkkccchkmcjcpaaGreatR1
set_option linter.defProp false
set_option linter.unusedVariables false
set_option linter.unusedSimpArgs false
set_option linter.unnecessarySimpa false
namespace Go.El
open Go Go.RowKit
section
variable{P:Program}{tt:TT}
def Kt(tt:TT)(st:St)(t id:Nat)(i:AV):Option (AV×Pr):=match ao id st.mem,i with
 |some (.vec _ T xs),.c (.I _ k)=>if wA tt t T.n then some (.c (.Y id T.n k.toNat 0),.and (.le 0 k) (.lt k xs.length))else none
 |_,_=>none
def agW(aT:cL P tt=true){ops:Array Oper}{i:Nat}{o:Oper}{d:Nat}(ho:ops[i]? =some o)(hg:o.guard=none)(hd:o.dst=some d){n:Nat}(aV:d<n){t:TypeId}{x y:Operand}(b9:o.op= .indexAddr t x y)
  {st:St} {id:Nat} {vy v:AV} {p:Pr} (hx:st.ev x=some (.c (.X id))) (hy:st.ev y=some vy) (he:Kt tt st t id vy=some (v,p)) (hp:p) (new:Nat):
  mj P n ops i (dQ st x++dQ st y++gU st [id]) [(.s d,some (.v v))] new:=by
 refine uS ho hg hd aV _ v new ?_
 intro F known σ g W a aH bt
 have lH:a.eval x=g.γ id:=gy aH st x _ hx (λkx aS=>bt kx jt)
 have ph:=gy aH st y vy hy (λkx aS=>bt kx jt)
 have oz:=uR aH st x _ hx (λkx aS=>bt kx jt)
 unfold Kt at he
 split at he
 ·rename_i E T xs k' k hl;split at he
  ·rename_i dc;simp only[aO,cD]at he;obtain⟨rfl,rfl⟩:=he;have hσ:σ (.m id)=some (.b (.vec E T xs)):=bt (.m id,.b (.vec E T xs)) uG;obtain⟨e,i',mT,hi,hs⟩:=DI aT dc;have PG:a.eval y= .int k' k:=ph;rcases aH.c9 id _ hσ with⟨_,h0⟩|⟨b,cap,vs,hγ,_⟩
   ·subst h0;simp[Pr.h]at hp;omega
   ·refine⟨λj hj=>oz j (by simpa[AV.aD,C.aD]using hj),.pointer (some ⟨b,k.toNat*T.n,none⟩),?_,b,xs.length,cap,hγ,by simp⟩;have lG:execOp a.eval o=(do pure (.value (←Instr.indexAt t (a.eval x) (a.eval y)))):=yW;rw[lG,lH,hγ,PG];have sH:(0≤k∧k<(xs.length:Int)):=hp;simp only[Instr.indexAt,asIntOf,Sem.run_bind,run_underlying mT,Result.andThen];simp[sH,run_sizeOf hi,hs,p5]
  ·simp at he
 ·simp at he
def PH(tt:TT)(st:St)(t id off len:Nat)(i:AV):Option (AV×Pr):=match ao id st.mem,i with
 |some (.vec _ T _),.c (.I _ k)=>if T.n=1∧wA tt t 1=true then some (.c (.Y id 1 (off+k.toNat) 0),.and (.le 0 k) (.lt k len))else none
 |_,_=>none
def agX(aT:cL P tt=true){ops:Array Oper}{i:Nat}{o:Oper}{d:Nat}(ho:ops[i]? =some o)(hg:o.guard=none)(hd:o.dst=some d){n:Nat}(aV:d<n){t:TypeId}{x y:Operand}(b9:o.op= .indexAddr t x y)
  {st:St} {id off len:Nat} {vy v:AV} {p:Pr} (hx:st.ev x=some (.c (.W id off len))) (hy:st.ev y=some vy) (he:PH tt st t id off len vy=some (v,p)) (hp:p) (new:Nat):
  mj P n ops i (dQ st x++dQ st y++gU st [id]) [(.s d,some (.v v))] new:=by
 refine uS ho hg hd aV _ v new ?_
 intro F known σ g W a aH bt
 obtain⟨b0,c0,et,lH,_⟩:=gy aH st x _ hx (λkx aS=>bt kx jt)
 have ph:=gy aH st y vy hy (λkx aS=>bt kx jt)
 have oz:=uR aH st x _ hx (λkx aS=>bt kx jt)
 unfold PH at he
 split at he
 ·rename_i E T xs k' k hl;split at he
  ·rename_i dc;simp only[aO,cD]at he;obtain⟨rfl,rfl⟩:=he;have hσ:σ (.m id)=some (.b (.vec E T xs)):=bt (.m id,.b (.vec E T xs)) uG;obtain⟨e,i',mT,hi,hs⟩:=DI aT dc.2;have PG:a.eval y= .int k' k:=ph;rcases aH.c9 id _ hσ with⟨hγ,_⟩|⟨b,cap,vs,hγ,_⟩
   ·rw[hγ]at et;simp[cN]at et
   ·rw[hγ]at et;simp only[cN,aO]at et;subst et;refine⟨λj hj=>oz j (by simpa[AV.aD,C.aD]using hj),.pointer (some ⟨b,off+k.toNat,none⟩),?_,b,xs.length,cap,hγ,by simp⟩;have lG:execOp a.eval o=(do pure (.value (←Instr.indexAt t (a.eval x) (a.eval y)))):=yW;rw[lG,lH,PG];have sH:(0≤k∧k<(len:Int)):=hp;simp only[Instr.indexAt,asIntOf,Sem.run_bind,run_underlying mT,Result.andThen];simp[sH,run_sizeOf hi,hs,p5]
  ·simp at he
 ·simp at he
def DO(tt:TT)(st:St)(t id:Nat):Option AV:=match ao id st.mem,ao t tt with
 |some (.vec _ _ xs),some ti=>(match ti.kind with| .sl _=>some (.c (.I .i64 xs.length))|_=>none)
 |_,_=>none
def agY(aT:cL P tt=true){ops:Array Oper}{i:Nat}{o:Oper}{d:Nat}(ho:ops[i]? =some o)(hg:o.guard=none)(hd:o.dst=some d){n:Nat}(aV:d<n){t:TypeId}{x:Operand}(b9:o.op= .call ⟨.builtin .len,#[x],#[t]⟩)
  {st:St} {id:Nat} {v:AV} (hx:st.ev x=some (.c (.X id))) (he:DO tt st t id=some v) (new:Nat):
  mj P n ops i (dQ st x++gU st [id]) [(.s d,some (.v v))] new:=by
 refine uS ho hg hd aV _ v new ?_
 intro F known σ g W a aH bt
 have lH:a.eval x=g.γ id:=gy aH st x _ hx (λkx aS=>bt kx jt)
 unfold DO at he
 split at he
 ·rename_i E T xs ti hl ht;split at he
  ·rename_i e hk;simp only[aO]at he;subst he;have hσ:σ (.m id)=some (.b (.vec E T xs)):=bt (.m id,.b (.vec E T xs)) uG;have h2:=(gL aT ht).kind;rw[hk]at h2;refine⟨by simp[AV.aD,C.aD],.int .i64 xs.length,?_,ae⟩;rw[execOp,b9];rcases aH.c9 id _ hσ with⟨hγ,h0⟩|⟨b,cap,vs,hγ,_⟩
   ·subst h0;simp[resolve,invoke,builtin,Builtin.len_,lH,hγ,run_underlying h2,goInt,Sem.run,pure]
   ·simp[resolve,invoke,builtin,Builtin.len_,lH,hγ,run_underlying h2,goInt,Sem.run,pure]
  ·simp at he
 ·simp at he
def GH(T:ET):List C→Option T.den:=match T with
 | .int k=>λcs=>(match cs with|[.I k' n]=>if k=k' then some n else none|_=>none)
 | .bool=>λcs=>(match cs with|[.B b]=>some b|_=>none)
 |_=>λ_=>none
def agZ{T:ET}{cs:List C}{x:T.den}(h:GH T cs=some x):cs=av T x:=by
 cases T with
 |int k=>
  simp only[GH]at h
  split at h
  ·split at h
   ·rename_i e;subst e;simp at h;subst h;rfl
   ·simp at h
  ·simp at h
 |bool=>
  simp only[GH]at h
  split at h
  ·simp at h;subst h;rfl
  ·simp at h
 |_=>simp[GH]at h
def DP:∀(T:ET)(x:T.den),∀c∈av T x,rz c=true
 | .int _,_,c,h=>by simp[av]at h;subst h;rfl
 | .bool,_,c,h=>by simp[av]at h;subst h;rfl
 | .z,_,c,h=>by simp[av]at h;rcases h with rfl|rfl<;>rfl
 | .q,_,c,h=>by simp[av]at h;rcases h with rfl|rfl|rfl|rfl<;>rfl
 | .sl _,_,c,h=>by simp[av]at h;subst h;rfl
 | .pr A B,x,c,h=>by
  simp only[av,bX]at h;rcases h with h|h
  ·exact DP A _ c h
  ·exact DP B _ c h
def ag0{α:Type}(vs us:List α)(n i j:Nat)(hl:us.length=n)(hle:(i+1)*n≤vs.length)(aN:i≠j):((dy vs us (i*n)).drop (j*n)).take n=(vs.drop (j*n)).take n:=by
 have hi:(i+1)*n=i*n+n:=by rw[fP,iZ]
 apply List.ext_getElem?;intro k;rw[ON,ON];split
 ·rename_i hk;rw[tv,tv];unfold dy;rcases wj j i with DC|DC
  ·have h1:(j+1)*n≤i*n:=dY _ DC;rw[fP,iZ]at h1;rw[nj,FV cO,C3 af]
  ·have h1:(i+1)*n≤j*n:=dY _ af;rw[y8 cO,tv];simp only[ko,fD];congr 1;omega
 ·rfl
def ag1{α:Type}(vs us:List α)(n i:Nat)(hl:us.length=n)(hle:(i+1)*n≤vs.length):((dy vs us (i*n)).drop (i*n)).take n=us:=by
 have hi:(i+1)*n=i*n+n:=by rw[fP,iZ]
 unfold dy;have:(vs.take (i*n)).length=i*n:=cO;rw[nj,JM af,JQ af,wh,AS af,lD af]
def WR(aT:cL P tt=true){ops:Array Oper}{i:Nat}{o:Oper}(ho:ops[i]? =some o)(hg:o.guard=none)(hd:o.dst=none){n:Nat}{t:TypeId}{x y:Operand}(b9:o.op= .store t x y)
  {st:St} {id m k:Nat} {E:TypeId} {T:ET} {xs:List T.den} {vy:AV} (hx:st.ev x=some (.c (.Y id m k 0))) (hy:st.ev y=some vy) (hl:ao id st.mem=some (.vec E T xs)) (hm:T.n=m) {ag:Bool} (j8:p7 tt t=some (m,ag)) {e:T.den} (eL:jn vy=some (av T e)) (hk:k<xs.length) (new:Nat):
  mj P n ops i (dQ st x++dQ st y++gU st [id]) [(.m id,some (.b (.vec E T (xs.set k e))))] new:=by
 intro F fW Q known σ g W a K dT aH bt hK
 have lH:=gy aH st x _ hx (λkx aS=>bt kx jt)
 have ph:=gy aH st y vy hy (λkx aS=>bt kx jt)
 have hσ:σ (.m id)=some (.b (.vec E T xs)):=bt (.m id,.b (.vec E T xs)) uG
 obtain⟨b',l',c',fl,hv⟩:=lH
 rcases aH.c9 id _ hσ with⟨_,h0⟩|⟨b,cap,vs,hγ,hh,j9,hle,hlen,hr,hN,hz⟩
 ·subst h0;simp at hk
 rw[hγ]at fl
 simp only[Value.slice.injEq,aO,Addr.mk.injEq,and_true]at fl
 obtain⟨rfl,_,_⟩:=fl
 obtain⟨ws,kX,sC⟩:=Kq eL ph (DP T e)
 have WS:dh g.H T e ws:=zo T e ws sC
 have mU:ws.length=T.n:=dh.length T _ _ WS
 obtain⟨_,⟨ti,fo,WO⟩,_⟩:=Gy aT j8
 have pc:(k+1)*T.n≤vs.length:=by rw[j9];exact dY _ af
 have fX:(k+1)*T.n=k*T.n+T.n:=by rw[fP,iZ]
 subst hm
 have bZ:(Instr.storeAt t (a.eval x) (a.eval y)).run P W= .ok () (jm W b (dy vs ws (k*T.n)) E):=by rw[hv];simp only[Instr.storeAt,Instr.sureAddr,storeVar,Sem.run_bind,Sem.run_pure,Result.andThen,run_sizeOf fo,kX,j6];have:¬(ws.toArray.size≠ti.size):=cO;simp only[this,cP];have:=DM (P:=P) b ws W vs (k*T.n) 0 hh af (sC.one (DP T e));simp only[j6]at this;simpa using this
 unfold wpOp
 simp only[ho,Region.wanted,hg,cM]
 refine .inl ?_
 unfold Oper.wp
 have hex:(execOp a.eval o).run P W= .ok .skip (jm W b (dy vs ws (k*T.n)) E):=by rw[execOp,b9];simp[bZ,Sem.run,pure]
 rw[hex]
 simp only[Oper.upon,hd,Act.put]
 have hb:b<W.heap.size:=(jO.1 hh).1
 refine hK g _ a (aH.step (chg:=λj=>j=id) (g':=g) ⟨⟨cC.refl _,λ_ _=>rfl⟩,λ_ _ _=>rfl,GC aH.sub hz,by simp[jm],?_,ae,ae,ae⟩ _ new dT ae aH.defers (λ_ _=>rfl) ?_ ?_ ?_ ?_ ?_)
 ·intro k' du aN;have:b≠k':=λe=>aN id ae (by rw[hγ,e];rfl)
  exact DK this
 ·intro j hj;subst hj;exact⟨by simp[a9],_,hσ⟩
 ·intro t' v' ht;simp[a9]at ht
 ·intro j bk hj;simp only[a9]at hj;split at hj
  ·rename_i e';simp only[Key.m.injEq]at e';subst e';simp only[aO,Info.b.injEq]at hj;subst hj;refine⟨.inr ⟨b,cap,dy vs ws (k*T.n),by simpa using hγ,DJ hb,?_,by simpa using hle,by simpa using hlen,λj hj=>?_,hN,hz⟩,.inl ⟨aH.fy _ _ hσ,_,hσ⟩⟩
   ·rw[DL _ _ _ af];exact j9
   ·simp only[gK]at hj;rw[List.getElem_set];split
    ·rename_i e';subst e';rw[ag1 vs ws T.n k mU pc];exact WS
    ·rename_i e';rw[ag0 vs ws T.n k j mU pc e'];exact hr j hj
  ·simp at hj
 ·intro k' z gV;simp only[a9]at gV;split at gV
  ·simp only[aO]at gV;subst gV;intro j hj;simp[Info.aD,aJ.aD]at hj
  ·simp at gV
 ·intro j z gV;simp only[a9]at gV;split at gV
  ·rename_i e';simp only[Key.m.injEq]at e';subst e';exact .inl (aH.fy _ _ hσ)
  ·simp at gV
end
section
variable{P:Program}{tt:TT}{n:Nat}
def Bl(pl:List (Nat×Nat))(st:St):List C→List (Nat×Operand)→Option (List C)
 |cs,[]=>some cs
 |cs,(i,x)::r=>(match pl[i]?,st.ev x with
  |some (off,sz),some v=>(match jn v with
   |some us=>if us.length=sz∧off+sz≤cs.length∧us.all rz=true then Bl pl st (dy cs us off) r else none
   |none=>none)
  |_,_=>none)
def ag2(us:List Value):∀(vs:List Value)(off k:Nat),off+k+us.length≤vs.length→(us.zipIdx k).foldl (λ(cs:Array Value)(p:Value×Nat)=>cs.setIfInBounds (off+p.2) p.1) vs.toArray=(dy vs us (off+k)).toArray:=by
 induction us with
 |nil=>intro vs off k _;simp[dy]
 |cons u us ih=>
  intro vs off k h
  simp only[fk]at h
  simp only[List.zipIdx_cons,List.foldl_cons]
  have:vs.toArray.setIfInBounds (off+k) u=(vs.set (off+k) u).toArray:=be
  rw[this,ih (vs.set (off+k) u) off (k+1) cO]
  rw[show off+(k+1)=off+k+1 by omega,WM _ _ _ _ af]
def Ku{F:c8}{known:Nat→Prop}{σ:Kn}{g:Gh}{W:World}{a:Act}(h:bJ F known σ g W a)(st:St)(pl:List (Nat×Nat))(place:Nat→Option (Nat×Nat))(p9:∀i x,pl[i]? =some x→place i=some x):
  ∀(parts:List (Nat×Operand))(cs DQ:List C)(vs:List Value),Bl pl st cs parts=some DQ→bS g cs vs→(∀p∈parts,∀kx∈dQ st p.2,σ kx.1=some kx.2)→(∀id∈cA cs,known id)→
   ∃us:List Value,Instr.fill place vs.toArray (parts.map λp=>(p.1,a.eval p.2))=some us.toArray∧bS g DQ us∧us.length=vs.length∧∀id∈cA DQ,known id
 |[],cs,DQ,vs,hf,hr,_,hm=>by simp only[Bl,aO]at hf;subst hf;exact⟨vs,ae,hr,ae,hm⟩
 | (i,x)::parts,cs,DQ,vs,hf,hr,bt,hm=>by
  simp only[Bl]at hf;split at hf
  ·rename_i off sz v hp hv;split at hf
   ·rename_i us ja;split at hf
    ·rename_i sH;obtain⟨h1,h2,h3⟩:=sH;have bU:=gy h st x v hv (bt (i,x) be);have zB:=uR h st x v hv (bt (i,x) be);obtain⟨ws,kX,sC⟩:=Kq ja bU (λc hc=>wg.1 h3 c hc);have Bm:=hr.length;have qc:=sC.length;have ag3:∀id∈cA (dy cs us off),known id:=by
      intro id al;rcases PE _ _ _ id al with h|h
      ·exact hm id h
      ·refine zB id ?_;cases v with
       |c q=>simp only[jn,aO]at ja;subst ja;simpa[cA,AV.aD]using h
       |a q=>simp only[jn,aO]at ja;subst ja;exact h
       |t q=>simp[jn]at ja
     obtain⟨zs,GI,zC,PI,hz4⟩:=Ku h st pl place p9 parts (dy cs us off) DQ (dy vs ws off) hf (hr.dy sC off) (λp hp=>bt p (by simp[hp])) ag3;refine⟨zs,?_,zC,by rw[PI,DL _ _ _ af],hz4⟩;simp only[jF,Instr.fill,p9 i _ hp,kX];have hc:¬((ws.toArray.size≠sz||decide (off+ws.toArray.size>vs.toArray.size))=true):=by simp;omega
     rw[aq (by simpa using hc)];have:=ag2 ws vs off 0 af;simp only[j6]at this;have e:ws.toArray.zipIdx.foldl (λ(cs:Array Value)(p:Value×Nat)=>cs.setIfInBounds (off+p.2) p.1) vs.toArray=(dy vs ws off).toArray:=by rw[←this];simp
     rw[←GI];congr 1
    ·simp at hf
   ·simp at hf
  ·simp at hf
def Kv(ti:TI):List (Nat×Nat):=ti.fields.map λf=>(f.1,f.2.1)
def PJ(tt:TT)(st:St)(t:Nat)(parts:List (Nat×Operand)):Option AV:=match ao t tt with
 |some ti=>(match ti.kind with
  | .st=>(match Bl (Kv ti) st (ti.zero.map ZV.sD) parts with|some cs=>some (.a cs)|none=>none)
  |_=>none)
 |none=>none
def Kw(zs:List ZV):cA (zs.map ZV.sD)=[]:=by
 induction zs with
 |nil=>rfl
 |cons z zs ih=>simp only[jF,cA,ih];cases z<;>rfl
def ag5(aT:True){ti:TI}{fs:Array Field}(uT:tG P ti.fields fs.toList=true)(W:World):∃oA:Array (Nat×Nat),(fs.mapM λf=>(do pure (f.offset,←sizeOf f.type):Go.Sem (Nat×Nat))).run P W= .ok oA W∧∀(i:Nat)(x:Nat×Nat),(Kv ti)[i]? =some x→oA[i]? =some x:=by
 have key:∀(l:List (Nat×Nat×Bool))(fs:List Field),tG P l fs=true→(fs.mapM λf=>(do pure (f.offset,←sizeOf f.type):Go.Sem (Nat×Nat))).run P W= .ok (l.map λf=>(f.1,f.2.1)) W:=by
  intro l;induction l with
  |nil=>intro fs h;cases fs with
   |nil=>simp[pure]
   |cons f fs=>simp[tG]at h
  |cons p l ih=>
   intro fs h
   obtain⟨off,sz,ag⟩:=p
   cases fs with
   |nil=>simp[tG]at h
   |cons f fs=>
    obtain⟨f',Kx,e1,⟨i,hi,hs⟩,_⟩:=Ki h (k:=0) ae
    simp only[AW,aO]at Kx
    subst Kx
    simp only[tG,eQ]at h
    have:=ih fs h.2
    rw[List.mapM_cons]
    simp only[Sem.run_bind,run_sizeOf hi,Result.andThen,Sem.run_pure,this,hs,e1,jF]
 refine⟨(Kv ti).toArray,?_,λi x h=>by simpa using h⟩;have hm:fs.mapM (λf=>(do pure (f.offset,←sizeOf f.type):Go.Sem (Nat×Nat)))=Functor.map List.toArray (fs.toList.mapM (λf=>(do pure (f.offset,←sizeOf f.type):Go.Sem (Nat×Nat)))):=by simp[Array.mapM_eq_mapM_toList]
 rw[hm];simp only[map_eq_pure_bind,Sem.run_bind,key ti.fields fs.toList uT,Result.andThen];rfl
def ag6(aT:cL P tt=true){ops:Array Oper}{i:Nat}{o:Oper}{d:Nat}(ho:ops[i]? =some o)(hg:o.guard=none)(hd:o.dst=some d){n:Nat}(aV:d<n){t:TypeId}{parts:Array (Nat×Operand)}(b9:o.op= .build t parts)
  {st:St} {v:AV} (hv:PJ tt st t parts.toList=some v) (new:Nat):mj P n ops i (o9 st o.op) [(.s d,some (.v v))] new:=by
 refine uS ho hg hd aV _ v new ?_
 intro F known σ g W a aH bt
 unfold PJ at hv
 split at hv
 ·rename_i ti fo;split at hv
  ·rename_i hk;split at hv
   ·rename_i cs eL;simp only[aO]at hv;subst hv;have h2:=(gL aT fo).kind;rw[hk]at h2;obtain⟨fs,hu,uT⟩:=h2;obtain⟨inf,lI,_,_,z,hz,p8⟩:=(gL aT fo).info;obtain⟨oA,ag7,DR⟩:=ag5 (P:=P) ah uT W;obtain⟨us,tJ,nq,hu3,Ky⟩:=Ku aH st (Kv ti) (oA[·]?) DR parts.toList (ti.zero.map ZV.sD) cs (ti.zero.map ZV.fV) eL (DN g _) (λp hp kx aS=>bt kx (by rw[b9];refine jE.2 ⟨p.2,?_,aS⟩;simp only[Op.operands];simp only[nQ];exact⟨p,hp,ae⟩)) (by rw[Kw];simp);refine⟨Ky,.agg us.toArray,?_,us,ae,nq⟩;have uU:z.cells=(ti.zero.map ZV.fV).toArray:=FO;have lG:execOp a.eval o=(do pure (.value (←Instr.build t (parts.map λ(i,x)=>(i,a.eval x))))):=yW;have jI:(parts.map λ(i,x)=>(i,a.eval x)).toList=parts.toList.map λp=>(p.1,a.eval p.2):=be
    have zD:(zeroValue t).run P W= .ok z W:=by simp[zeroValue,typeInfo,lI,hz]
    have hb:(Instr.build t (parts.map λ(i,x)=>(i,a.eval x))).run P W= .ok (.agg us.toArray) W:=by unfold Instr.build;rw[Sem.run_bind,zD];simp only[Result.andThen];rw[Sem.run_bind,run_underlying hu];simp only[Result.andThen];rw[Sem.run_bind,ag7];simp only[Result.andThen,jI,uU,tJ];rfl
    rw[lG,Sem.run_bind,hb];rfl
   ·simp at hv
  ·simp at hv
 ·simp at hv
end
section
variable{P:Program}{tt:TT}
def fY(st:St)(x:Operand):∀kx∈dQ st x,st.kn kx.1=some kx.2:=by
 intro kx h;cases x with
 |tmp t=>
  simp only[dQ]at h
  split at h
  ·rename_i v hv;simp only[jw]at h;subst h;simp[St.kn,hv]
  ·simp at h
 |_=>simp[dQ]at h
def rB(st:St)(ids:List Nat):∀kx∈gU st ids,st.kn kx.1=some kx.2:=by
 intro kx h;obtain⟨id,_,h⟩:=jE.1 h;split at h
 ·rename_i b hb;simp only[jw]at h;subst h;simp[St.kn,hb]
 ·simp at h
def DS(st:St)(op:Op):∀kx∈o9 st op,st.kn kx.1=some kx.2:=by intro kx h;obtain⟨x,_,h⟩:=jE.1 h;exact fY st x kx h
def St.put(st:St)(d:Nat)(x:AV):St:={st with sl:=(d,x)::st.sl}
def St.pm(st:St)(id:Nat)(b:aJ):St:={st with mem:=(id,b)::st.mem}
def wC{α:Type}(t:Nat):List (Nat×α)→List (Nat×α)
 |[]=>[]
 | (k,x)::r=>if k=t then wC t r else(k,x)::wC t r
def GJ{α:Type}(t k:Nat):∀l:List (Nat×α),ao k (wC t l)=if t=k then none else ao k l
 |[]=>by simp[wC,ao]
 | (j,x)::r=>by
  simp only[wC];split
  ·rename_i e;subst e;rw[GJ j k r];split
   ·rfl
   ·rename_i h;simp[ao,h]
  ·rename_i e;simp only[ao];split
   ·rename_i e2;subst e2;rw[aq (λh=>e h.symm)]
   ·exact GJ t k r
def nV(st:St)(d:Nat)(x:AV):(st.put d x).kn=dC st.kn [(.s d,some (.v x))]:=by
 funext k;cases k with
 |s t=>
  by_cases e:d=t
  ·simp[St.kn,St.put,ao,dC,a9,e]
  ·simp[St.kn,St.put,ao,dC,a9,e]
 |m id=>simp[St.kn,St.put,dC,a9]
def Kz(st:St)(d:Nat)(x:aJ):(st.pm d x).kn=dC st.kn [(.m d,some (.b x))]:=by
 funext k;cases k with
 |s t=>simp[St.kn,St.pm,dC,a9]
 |m id=>
  by_cases e:d=id
  ·simp[St.kn,St.pm,ao,dC,a9,e]
  ·simp[St.kn,St.pm,ao,dC,a9,e]
def Bn(st:St)(d id:Nat)(x:AV)(b:aJ):((st.pm id b).put d x).kn=dC st.kn [(.s d,some (.v x)),(.m id,some (.b b))]:=by
 funext k;cases k with
 |s t=>
  by_cases e:d=t
  ·simp[St.kn,St.put,St.pm,ao,dC,a9,e]
  ·simp[St.kn,St.put,St.pm,ao,dC,a9,e]
 |m j=>
  by_cases e:id=j
  ·simp[St.kn,St.put,St.pm,ao,dC,a9,e]
  ·simp[St.kn,St.put,St.pm,ao,dC,a9,e]
abbrev Ks:=List Key×List Key
def cF:List Operand→List Key
 |[]=>[]
 | .tmp t::r=> .s t::cF r
 |_::r=>cF r
def fp:List Nat→List Key
 |[]=>[]
 |id::r=> .m id::fp r
def fR(st:St):∀(xs:List Operand),∀k∈dO (xs.flatMap (dQ st)),k∈cF xs
 |[],k,h=>by simp[dO]at h
 |x::xs,k,h=>by
  simp only[dO,gJ,dZ,bX]at h;rcases h with h|h
  ·cases x with
   |tmp t=>
    simp only[dQ]at h
    split at h
    ·simp at h;subst h;simp[cF]
    ·simp at h
   |_=>simp[dQ]at h
  ·have:=fR st xs k h;cases x<;>simp[cF,this]
def qf(st:St):∀(ids:List Nat),∀k∈dO (gU st ids),k∈fp ids
 |[],k,h=>by simp[dO,gU]at h
 |id::ids,k,h=>by
  simp only[dO,gU,gJ,dZ,bX]at h;rcases h with h|h
  ·split at h
   ·simp at h;subst h;simp[fp]
   ·simp at h
  ·have:=qf st ids k h;simp[fp,this]
def zE(tt:TT)(n new:Nat)(dst:Option Nat)(op:Op):St→Option (St×Pr×Ks)
 |⟨sl,mem,nx,gd⟩=>match dst,op with
 |some d,.load t x=>if d<n then(match St.ev ⟨sl,mem,nx,gd⟩ x with
   |some v=>(match GA tt ⟨sl,mem,nx,gd⟩ t v with
    |some (y,p,ids)=>some (⟨(d,y)::sl,mem,nx,gd⟩,p,(cF [x]++fp ids,[.s d]))
    |none=>none)
   |none=>none)else none
 |none,.store t x y=>(match St.ev ⟨sl,mem,nx,gd⟩ x,St.ev ⟨sl,mem,nx,gd⟩ y with
   |some (.c (.Y id m k 0)),some vy=>(match ao id mem,p7 tt t,jn vy with
    |some (.vec E T xs),some (sz,_),some cs=>if T.n=m∧sz=m then(match GH T cs with
     |some e=>some (⟨sl,(id,.vec E T (xs.set k e))::mem,nx,gd⟩,.Kf k xs.length,(cF [x,y]++fp [id],[.m id]))
     |none=>none)else none
    |_,_,_=>none)
   |some vx,some vy=>(match PD tt ⟨sl,mem,nx,gd⟩ t vx vy with
    |some (id,bk)=>some (⟨sl,(id,bk)::mem,nx,gd⟩,.t,(cF [x,y]++fp [id],[.m id]))
    |none=>none)
   |_,_=>none)
 |some d,.indexAddr t x y=>if d<n then(match St.ev ⟨sl,mem,nx,gd⟩ x,St.ev ⟨sl,mem,nx,gd⟩ y with
   |some (.c (.X id)),some vy=>(match Kt tt ⟨sl,mem,nx,gd⟩ t id vy with
    |some (v,p)=>some (⟨(d,v)::sl,mem,nx,gd⟩,p,(cF [x,y]++fp [id],[.s d]))
    |none=>none)
   |some (.c (.W id off len)),some vy=>(match PH tt ⟨sl,mem,nx,gd⟩ t id off len vy with
    |some (v,p)=>some (⟨(d,v)::sl,mem,nx,gd⟩,p,(cF [x,y]++fp [id],[.s d]))
    |none=>none)
   |some _,some _=>(match Gr tt ⟨sl,mem,nx,gd⟩ (.indexAddr t x y)with
    |some (v,p)=>some (⟨(d,v)::sl,mem,nx,gd⟩,p,(cF [x,y],[.s d]))
    |none=>none)
   |_,_=>none)else none
 |some d,.build t parts=>if d<n then(match PJ tt ⟨sl,mem,nx,gd⟩ t parts.toList with
   |some v=>some (⟨(d,v)::sl,mem,nx,gd⟩,.t,(cF (Op.build t parts).operands.toList,[.s d]))
   |none=>none)else none
 |some d,.call ⟨.builtin .len,args,di⟩=>if d<n then(match args.toList,di.toList with
   |[x],[t]=>(match St.ev ⟨sl,mem,nx,gd⟩ x with
    |some (.c (.X id))=>(match DO tt ⟨sl,mem,nx,gd⟩ t id with
     |some v=>some (⟨(d,v)::sl,mem,nx,gd⟩,.t,(cF [x]++fp [id],[.s d]))
     |none=>none)
    |some v=>(match Kl tt t v with
     |some u=>some (⟨(d,u)::sl,mem,nx,gd⟩,.t,(cF [x],[.s d]))
     |none=>none)
    |none=>none)
   |_,_=>none)else none
 |some d,.box E x=>if d<n then(match St.ev ⟨sl,mem,nx,gd⟩ x with
   |some v=>(match jn v with
    |some cs=>if cs.all rz=true then some (⟨(d,.c (.P new 0))::sl,(new,.box E 0 cs)::mem,nx,gd⟩,.t,(cF [x],[.s d,.m new]))else none
    |none=>none)
   |none=>none)else none
 |some d,.alloc E=>if d<n then(match ao E tt with
   |some ti=>some (⟨(d,.c (.P new 0))::sl,(new,.box E 0 (ti.zero.map ZV.sD))::mem,nx,gd⟩,.t,([],[.s d,.m new]))
   |none=>none)else none
 |some d,op=>if d<n then(match Gr tt ⟨sl,mem,nx,gd⟩ op with
   |some (x,p)=>some (⟨(d,x)::sl,mem,nx,gd⟩,p,(cF op.operands.toList,[.s d]))
   |none=>none)else none
 |none,_=>none
def kY(P:Program)(n:Nat)(ops:Array Oper)(i:Nat)(st st':St)(new:Nat)(ks:Ks):Prop:=
 ∃rd wr,mj P n ops i rd wr new∧(∀kx∈rd,st.kn kx.1=some kx.2)∧st'.kn=dC st.kn wr∧(∀k∈dO rd,k∈ks.1)∧∀k∈fe wr,k∈ks.2
def WT(aT:cL P tt=true){n new:Nat}{ops:Array Oper}{i:Nat}{o:Oper}(ho:ops[i]? =some o)(hg:o.guard=none){st st':St}{p:Pr}{ks:Ks}
  (h:zE tt n new o.dst o.op st=some (st',p,ks)) (hp:p):kY P n ops i st st' new ks:=by
 obtain⟨sl,mem,nx,gd⟩:=st
 simp only[zE]at h
 split at h
 ·rename_i d t x hd b9;split at h
  ·rename_i aV;split at h
   ·rename_i v hv;split at h
    ·rename_i y q ids hl;simp only[aO,cD]at h;obtain⟨rfl,rfl,rfl⟩:=h;refine⟨_,_,agN aT ho hg hd aV b9 hv hl hp new,?_,nV ⟨sl,mem,nx,gd⟩ d y,?_,λk hk=>by simpa[fe]using hk⟩
     ·intro kx aS;rcases bX.1 aS with h|h
      ·exact fY _ x kx h
      ·exact rB _ ids kx h
     ·intro k hk;simp only[dO,dZ,bX]at hk;rcases hk with h|h
      ·exact fM _ (fR ⟨sl,mem,nx,gd⟩ [x] k (by simpa[dO]using h))
      ·exact jY _ (qf ⟨sl,mem,nx,gd⟩ ids k h)
    ·simp at h
   ·simp at h
  ·simp at h
 ·rename_i t x y hd b9;have WU:∀id k,k∈dO (dQ ⟨sl,mem,nx,gd⟩ x++dQ ⟨sl,mem,nx,gd⟩ y++gU ⟨sl,mem,nx,gd⟩ [id])→k∈cF [x,y]++fp [id]:=by
   intro id k hk;simp only[dO,dZ,bX]at hk;rcases hk with(h|h)|h
   ·exact fM _ (fR ⟨sl,mem,nx,gd⟩ [x,y] k yX)
   ·exact fM _ (fR ⟨sl,mem,nx,gd⟩ [x,y] k yY)
   ·exact jY _ (qf ⟨sl,mem,nx,gd⟩ [id] k h)
  have WV:∀id,∀kx∈dQ ⟨sl,mem,nx,gd⟩ x++dQ ⟨sl,mem,nx,gd⟩ y++gU ⟨sl,mem,nx,gd⟩ [id],St.kn ⟨sl,mem,nx,gd⟩ kx.1=some kx.2:=by
   intro id kx aS;rcases bX.1 aS with h|h
   ·rcases bX.1 h with h|h
    ·exact fY _ x kx h
    ·exact fY _ y kx h
   ·exact rB _ [id] kx h
  split at h
  ·rename_i id m k vy hx hy;split at h
   ·rename_i E T xs sz ag cs hl j8 eL;split at h
    ·rename_i sH;split at h
     ·rename_i e he;simp only[aO,cD]at h;obtain⟨rfl,rfl,rfl⟩:=h;obtain⟨h1,h2⟩:=sH;subst h2;have ag9:=agZ he;subst ag9;exact⟨_,_,WR aT ho hg hd b9 hx hy hl h1 j8 eL hp new,WV id,Kz ⟨sl,mem,nx,gd⟩ id _,WU id,λk hk=>by simpa[fe]using hk⟩
     ·simp at h
    ·simp at h
   ·simp at h
  ·rename_i vx vy hx hy;split at h
   ·rename_i id bk hs;simp only[aO,cD]at h;obtain⟨rfl,rfl,rfl⟩:=h;exact⟨_,_,agS aT ho hg hd b9 hx hy hs new,WV id,Kz ⟨sl,mem,nx,gd⟩ id bk,WU id,λk hk=>by simpa[fe]using hk⟩
   ·simp at h
  ·simp at h
 ·rename_i d t x y hd b9;split at h
  ·rename_i aV;split at h
   ·rename_i id vy hx hy;split at h
    ·rename_i v q he;simp only[aO,cD]at h;obtain⟨rfl,rfl,rfl⟩:=h;refine⟨_,_,agW aT ho hg hd aV b9 hx hy he hp new,?_,nV ⟨sl,mem,nx,gd⟩ d _,?_,λk hk=>by simpa[fe]using hk⟩
     ·intro kx aS;rcases bX.1 aS with h|h
      ·rcases bX.1 h with h|h
       ·exact fY _ x kx h
       ·exact fY _ y kx h
      ·exact rB _ [id] kx h
     ·intro k hk;simp only[dO,dZ,bX]at hk;rcases hk with(h|h)|h
      ·exact fM _ (fR ⟨sl,mem,nx,gd⟩ [x,y] k yX)
      ·exact fM _ (fR ⟨sl,mem,nx,gd⟩ [x,y] k yY)
      ·exact jY _ (qf ⟨sl,mem,nx,gd⟩ [id] k h)
    ·simp at h
   ·rename_i id off len vy hx hy;split at h
    ·rename_i v q he;simp only[aO,cD]at h;obtain⟨rfl,rfl,rfl⟩:=h;refine⟨_,_,agX aT ho hg hd aV b9 hx hy he hp new,?_,nV ⟨sl,mem,nx,gd⟩ d _,?_,λk hk=>by simpa[fe]using hk⟩
     ·intro kx aS;rcases bX.1 aS with h|h
      ·rcases bX.1 h with h|h
       ·exact fY _ x kx h
       ·exact fY _ y kx h
      ·exact rB _ [id] kx h
     ·intro k hk;simp only[dO,dZ,bX]at hk;rcases hk with(h|h)|h
      ·exact fM _ (fR ⟨sl,mem,nx,gd⟩ [x,y] k yX)
      ·exact fM _ (fR ⟨sl,mem,nx,gd⟩ [x,y] k yY)
      ·exact jY _ (qf ⟨sl,mem,nx,gd⟩ [id] k h)
    ·simp at h
   ·split at h
    ·rename_i v q hx;simp only[aO,cD]at h;obtain⟨rfl,rfl,rfl⟩:=h;refine⟨_,_,PA aT ho hg hd aV (by rw[b9];exact hx) hp new,DS _ _,nV ⟨sl,mem,nx,gd⟩ _ _,λk hk=>?_,λk hk=>by simpa[fe]using hk⟩;rw[b9]at hk;exact fR ⟨sl,mem,nx,gd⟩ _ k hk
    ·simp at h
   ·simp at h
  ·simp at h
 ·rename_i d t parts hd b9;split at h
  ·rename_i aV;split at h
   ·rename_i v hv;simp only[aO,cD]at h;obtain⟨rfl,rfl,rfl⟩:=h;refine⟨_,_,ag6 aT ho hg hd aV b9 hv new,DS _ _,nV ⟨sl,mem,nx,gd⟩ _ _,λk hk=>?_,λk hk=>by simpa[fe]using hk⟩;rw[b9]at hk;exact fR ⟨sl,mem,nx,gd⟩ _ k hk
   ·simp at h
  ·simp at h
 ·rename_i d args di hd b9;split at h
  ·rename_i aV;split at h
   ·rename_i x t ha ht;have kv:args= #[x]:=JE;have Gx:di= #[t]:=VB;subst kv Gx;split at h
    ·rename_i id hx;split at h
     ·rename_i v he;simp only[aO,cD]at h;obtain⟨rfl,rfl,rfl⟩:=h;refine⟨_,_,agY aT ho hg hd aV b9 hx he new,?_,nV ⟨sl,mem,nx,gd⟩ d _,?_,λk hk=>by simpa[fe]using hk⟩
      ·intro kx aS;rcases bX.1 aS with h|h
       ·exact fY _ x kx h
       ·exact rB _ [id] kx h
      ·intro k hk;simp only[dO,dZ,bX]at hk;rcases hk with h|h
       ·exact fM _ (fR ⟨sl,mem,nx,gd⟩ [x] k (by simpa[dO]using h))
       ·exact jY _ (qf ⟨sl,mem,nx,gd⟩ [id] k h)
     ·simp at h
    ·rename_i v hx;split at h
     ·rename_i u hu;simp only[aO,cD]at h;obtain⟨rfl,rfl,rfl⟩:=h;refine⟨_,_,PA aT ho hg hd aV (x:=u) (p:= .t) (st:=⟨sl,mem,nx,gd⟩) (by rw[b9];simp[Gr,hx,hu]) ah new,DS _ _,nV ⟨sl,mem,nx,gd⟩ _ _,λk hk=>?_,λk hk=>by simpa[fe]using hk⟩;rw[b9]at hk;exact fR ⟨sl,mem,nx,gd⟩ [x] k hk
     ·simp at h
    ·simp at h
   ·simp at h
  ·simp at h
 ·rename_i d E x hd b9;split at h
  ·rename_i aV;split at h
   ·rename_i v hv;split at h
    ·rename_i cs eL;split at h
     ·rename_i rA;simp only[aO,cD]at h;obtain⟨rfl,rfl,rfl⟩:=h;exact⟨_,_,agU ho hg hd aV b9 hv eL rA new,fY _ x,Bn ⟨sl,mem,nx,gd⟩ d new _ _,λk hk=>fR ⟨sl,mem,nx,gd⟩ [x] k (by simpa[dO]using hk),λk hk=>by simpa[fe]using hk⟩
     ·simp at h
    ·simp at h
   ·simp at h
  ·simp at h
 ·rename_i d E hd b9;split at h
  ·rename_i aV;split at h
   ·rename_i ti fo;simp only[aO,cD]at h;obtain⟨rfl,rfl,rfl⟩:=h;exact⟨_,_,agV aT ho hg hd aV b9 fo new,by simp,Bn ⟨sl,mem,nx,gd⟩ d new _ _,by simp[dO],λk hk=>by simpa[fe]using hk⟩
   ·simp at h
  ·simp at h
 ·rename_i d _ hd _ _ _ _ _ _;split at h
  ·rename_i aV;split at h
   ·rename_i x q hx;simp only[aO,cD]at h;obtain⟨rfl,rfl,rfl⟩:=h;exact⟨_,_,PA aT ho hg hd aV hx hp new,DS _ _,nV ⟨sl,mem,nx,gd⟩ _ x,λk hk=>fR ⟨sl,mem,nx,gd⟩ _ k hk,λk hk=>by simpa[fe]using hk⟩
   ·simp at h
  ·simp at h
 ·simp at h
def wD(opsL:List Oper)(j:Nat):Option Nat:=match opsL[j]? with
 |some o=>o.dst
 |none=>none
def PK{ops:Array Oper}{j tg:Nat}(hj:wD ops.toList j=some tg){g:Gh}{a:Act}{b:Bool}(h2:bP g (.c (.B b)) (a.tmps.getD tg undef)):yielded ops a.tmps j=some b:=by
 have h3:a.tmps.getD tg undef= .bool b:=h2;have:(ops[j]?).bind (·.dst)=some tg:=by
  unfold wD at hj;rw[F2]at hj;cases ho:ops[j]? with
  |none=>rw[ho]at hj;simp at hj
  |some o'=>rw[ho]at hj;simpa using hj
 unfold yielded;rw[this];rcases wj tg a.tmps.size with bh|tD
 ·have:a.tmps[tg]? =some (.bool b):=by rw[VT bh];rw[v5,VT bh]at h3;simpa using h3
  simp[this]
 ·exfalso;rw[v5,Array.getElem?_eq_none tD]at h3;simp[undef]at h3
def KA{n new:Nat}{ops:Array Oper}{i:Nat}{o:Oper}(ho:ops[i]? =some o){j:Nat}{want b:Bool}(hg:o.guard=some (j,want)){tg:Nat}(hj:wD ops.toList j=some tg){st st':St}(hb:ao tg st.sl=some (.c (.B b)))(uV:b=want){ks:Ks}
  (h:kY P n (#[{o with guard:=none}]) 0 st st' new ks):kY P n ops i st st' new (.s tg::ks.1,ks.2):=by
 obtain⟨rd,wr,hs,bt,eP,fX,dL⟩:=h
 refine⟨(.s tg,.v (.c (.B b)))::rd,wr,?_,?_,eP,λk hk=>?_,dL⟩
 ·intro F fW Q known σ g W a K dT aH hr hK;have h1:=hs F fW Q known σ g W a K dT aH (λkx aS=>hr kx jt) hK;have h2:=aH.gw tg (.c (.B b)) (hr (.s tg,.v (.c (.B b))) be);have hw:Region.wanted o (yielded ops a.tmps)=true:=by simp only[Region.wanted,hg,PK hj h2,uV,beq_self_eq_true]
  unfold wpOp at h1⊢;simp only[ho,hw,cM];simp only[JR,AW,Region.wanted,cM]at h1;exact h1
 ·intro kx aS;rcases dx.1 aS with rfl|h
  ·simp[St.kn,hb]
  ·exact bt kx h
 ·simp only[dO,jF,dx]at hk;rcases hk with h|h
  ·simp[h]
  ·exact v8 _ (fX k h)
def ag'{n new:Nat}{ops:Array Oper}{i:Nat}{o:Oper}(ho:ops[i]? =some o){j:Nat}{want b:Bool}(hg:o.guard=some (j,want)){tg:Nat}(hj:wD ops.toList j=some tg){st:St}(hb:ao tg st.sl=some (.c (.B b)))(uV:b= !want)
  {d:Nat} (hd:o.dst=some d):kY P n ops i st (st.put d (.c .any)) new ([.s tg],[.s d]):=by
 refine⟨[(.s tg,.v (.c (.B b)))],[(.s d,some (.v (.c .any)))],?_,?_,nV st d _,λk hk=>by simpa[dO]using hk,λk hk=>by simpa[fe]using hk⟩
 ·intro F fW Q known σ g W a K dT aH hr hK;have h2:=aH.gw tg (.c (.B b)) (hr (.s tg,.v (.c (.B b))) be);have hw:Region.wanted o (yielded ops a.tmps)=false:=by simp only[Region.wanted,hg,PK hj h2,uV];cases want<;>rfl
  unfold wpOp;simp only[ho,hw,mN,cP,hd];refine hK g W _ (aH.step (chg:=λ_=>False) (g':=g) (W':=W) ⟨⟨cC.refl _,λ_ _=>rfl⟩,λ_ _ _=>rfl,aH.sub,bF _,λ_ _ _=>rfl,ae,ae,ae⟩ _ new dT sc aH.defers ?_ (λ_ h=>h.elim) ?_ ?_ ?_ ?_)
  ·intro t ht;have aN:d≠t:=ts;simp[Act.put,nN aN]
  ·intro t u ht;simp only[a9]at ht;split at ht
   ·simp only[aO,Info.v.injEq]at ht;subst ht;exact ah
   ·simp at ht
  ·intro id b ht;simp[a9]at ht
  ·intro k y ht;simp only[a9]at ht;split at ht
   ·simp only[aO]at ht;subst ht;intro id al;simp[Info.aD,AV.aD,C.aD]at al
   ·simp at ht
  ·intro id y ht;simp[a9]at ht
 ·intro kx aS;simp only[jw]at aS;subst aS;simp[St.kn,hb]
def zF(tt:TT)(n new:Nat)(opsL:List Oper)(o:Oper)(st:St):Option (St×Pr×Ks):=match o.guard with
 |none=>zE tt n new o.dst o.op st
 |some (j,want)=>(match wD opsL j with
  |some tg=>(match ao tg st.gd,ao tg st.sl with
   |some dec,some (.c (.B b))=>if dec=want then(match zE tt n new o.dst o.op st with
     |some (st',p,ks)=>some (st',.an (.Bg b want) p,(.s tg::ks.1,ks.2))
     |none=>none)
    else(match o.dst with
     |some d=>some (⟨(d,.c .any)::st.sl,st.mem,st.nx,st.gd⟩,.Bg b (!want),([.s tg],[.s d]))
     |none=>none)
   |_,_=>none)
  |none=>none)
def WW(aT:cL P tt=true){n new:Nat}{ops:Array Oper}{i:Nat}{o:Oper}(ho:ops[i]? =some o){st st':St}{p:Pr}{ks:Ks}
  (h:zF tt n new ops.toList o st=some (st',p,ks)) (hp:p):kY P n ops i st st' new ks:=by
 unfold zF at h
 split at h
 ·rename_i hg;exact WT aT ho hg h hp
 ·rename_i j want hg;split at h
  ·rename_i tg hj;split at h
   ·rename_i dec b _ hb;split at h
    ·split at h
     ·rename_i asc q cj hs;simp only[aO,cD]at h;obtain⟨rfl,rfl,rfl⟩:=h;have hp:=Pr.DE hp;exact KA ho hg hj hb hp.1 (WT aT (o:={o with guard:=none}) be ae hs hp.2)
     ·simp at h
    ·split at h
     ·rename_i d hd;simp only[aO,cD]at h;obtain⟨rfl,rfl,rfl⟩:=h;exact ag' ho hg hj hb hp hd
     ·simp at h
   ·simp at h
  ·simp at h
end
section
variable{P:Program}{tt:TT}
def mask(l:List Edge)(acc:List Nat):Nat:=l.foldl (λs e=>if Region.binds .any e then s|||2^e.on|||acc.getD e.on 0 else s) 0
def xO:List Oper→List Nat→List Nat
 |[],acc=>acc
 |o::os,acc=>xO os (acc++[mask o.after.toList acc])
def DT:List Oper→Nat→Bool
 |[],_=>true
 |o::os,i=>o.after.toList.all (λe=> !Region.binds .any e||decide (e.on<i))&&DT os (i+1)
def GK(a b:List Key):Bool:=a.any λk=>b.any λk'=>k=k'
def sI(a b:Ks):Bool:=GK a.2 b.2||GK a.2 b.1||GK a.1 b.2
def Bo(m:Nat)(b:Ks):List Ks→Nat→Bool
 |[],_=>true
 |a::l,i=>(!sI a b||m.testBit i)&&Bo m b l (i+1)
def xP:List Nat→List Ks→List Ks→Bool
 |m::ms,b::bs,done=>Bo m b done 0&&xP ms bs (done++[b])
 |[],[],_=>true
 |_,_,_=>false
def tK(ops:List Oper)(ks:List Ks):Bool:=DT ops 0&&xP (xO ops []) ks []
def aha{l:List Edge}{acc:List Nat}{j:Nat}(h:(mask l acc).testBit j=true):∃e∈l,Region.binds .any e=true∧(e.on=j∨(acc.getD e.on 0).testBit j=true):=by
 unfold mask at h;have key:∀(l:List Edge)(s:Nat),(l.foldl (λs e=>if Region.binds .any e then s|||2^e.on|||acc.getD e.on 0 else s) s).testBit j=true→
   s.testBit j=true∨∃e∈l,Region.binds .any e=true∧(e.on=j∨(acc.getD e.on 0).testBit j=true):=by
  intro l
  induction l with
  |nil=>intro s h;exact .inl h
  |cons e l ih=>
   intro s h
   simp only[List.foldl_cons]at h
   rcases ih _ h with h|⟨e',PL,h1,h2⟩
   ·split at h
    ·rename_i hb;simp only[Nat.testBit_or,zd,Nat.testBit_two_pow,decide_eq_true_eq]at h;rcases h with(h|h)|h
     ·exact .inl h
     ·exact .inr ⟨e,by simp,hb,.inl h⟩
     ·exact .inr ⟨e,by simp,hb,.inr h⟩
    ·exact .inl h
   ·exact .inr ⟨e',by simp[PL],h1,h2⟩
 rcases key l 0 h with h|h
 ·simp at h
 ·exact h
def WY{ops:Array Oper}:∀(os:List Oper)(acc:List Nat),ops.toList=ops.toList.take acc.length++os→acc.length+os.length=ops.size→
  (∀k(hk:k<acc.length) j,acc[k].testBit j=true→ow ops j k)→(xO os acc).length=ops.size∧∀k(hk:k<(xO os acc).length) j,(xO os acc)[k].testBit j=true→ow ops j k
 |[],acc,_,hl,h=>by simp only[xO];exact⟨by simpa using hl,h⟩
 |o::os,acc,he,hl,h=>by
  have ho:ops[acc.length]? =some o:=by
   rw[←F2,he,y8 cO];simp only[fD];have:min acc.length ops.toList.length=acc.length:=by simp;simp at hl;omega
   rw[this];simp
  simp only[xO];refine WY os _ ?_ (by simp at hl⊢;omega) ?_
  ·have hlen:acc.length<ops.toList.length:=by simp;simp at hl;omega
   simp only[ko,fk,mc,eR];rw[JL hlen];have h2:ops.toList[acc.length]=o:=by have:=ho;rw[←F2,ct hlen]at this;simpa using this
   rw[h2,nj];exact he
  ·intro k hk j hj;rcases wj k acc.length with bh|tD
   ·rw[y9 bh]at hj;exact h k bh j hj
   ·have:k=acc.length:=by simp at hk;omega
    subst this;simp only[List.getElem_append_right (bF _),iG,xx]at hj;obtain⟨e,PM,hb,oZ⟩:=aha hj;have jz:e∈o.after:=by simpa using PM
    rcases oZ with e1|e1
    ·exact .one ho jz hb e1
    ·rcases wj e.on acc.length with h3|h3
     ·rw[aY,ct h3]at e1;exact .more ho jz hb ae (h e.on h3 j e1)
     ·rw[aY,ni h3]at e1;simp at e1
def WZ:∀(os:List Oper)(i:Nat),DT os i=true→∀k o,os[k]? =some o→∀e∈o.after,Region.binds .any e=true→e.on<i+k
 |[],_,_,k,o,h=>by simp at h
 |o::os,i,hb,0,o',h=>by
  simp only[AW,aO]at h;subst h;simp only[DT,eQ,wg,zd,JW,decide_eq_true_eq]at hb;intro e he xQ;have:=hb.1 e (by simpa using he);rcases this with h|h
  ·rw[h]at xQ;cases xQ
  ·omega
 |o::os,i,hb,k+1,o',h=>by simp only[C4]at h;simp only[DT,eQ]at hb;intro e he xQ;have:=WZ os (i+1) hb.2 k o' h e he xQ;omega
def W0{m:Nat}{b:Ks}:∀(l:List Ks)(i:Nat),Bo m b l i=true→∀k a,l[k]? =some a→sI a b=true→m.testBit (i+k)=true
 |[],_,_,k,a,h=>by simp at h
 |a::l,i,hb,0,a',h=>by
  simp only[AW,aO]at h;subst h;simp only[Bo,eQ,zd,JW]at hb;intro hc;rcases hb.1 with h|h
  ·rw[h]at hc;cases hc
  ·simpa using h
 |a::l,i,hb,k+1,a',h=>by simp only[C4]at h;simp only[Bo,eQ]at hb;intro hc;have:=W0 l (i+1) hb.2 k a' h hc;rw[show i+(k+1)=i+1+k by omega];exact this
def W4:∀(ms:List Nat)(bs done:List Ks),xP ms bs done=true→∀j m b,ms[j]? =some m→bs[j]? =some b→∀i a,i<done.length+j→(done++bs)[i]? =some a→sI a b=true→m.testBit i=true
 |m::ms,b::bs,done,h,0,m',b',hm,hb=>by simp only[AW,aO]at hm hb;subst hm hb;simp only[xP,eQ]at h;intro i a hi ha hc;rw[FV af]at ha;have:=W0 done 0 h.1 i a ha hc;simpa using this
 |m::ms,b::bs,done,h,j+1,m',b',hm,hb=>by simp only[C4]at hm hb;simp only[xP,eQ]at h;intro i a hi ha hc;exact W4 ms bs (done++[b]) h.2 j m' b' hm hb i a cO (by simpa using ha) hc
 |[],[],_,_,j,m,b,hm,_=>by simp at hm
 |[],_::_,_,h,_,_,_,_,_=>by simp[xP]at h
 |_::_,[],_,h,_,_,_,_,_=>by simp[xP]at h
def DU{a b:List Key}{k:Key}(ha:k∈a)(hb:k∈b):GK a b=true:=by simp only[GK,List.any_eq_true];exact⟨k,ha,k,hb,by simp⟩
def W5{ops:Array Oper}{ks:List Ks}(h:tK ops.toList ks=true):(∀i o e,ops[i]? =some o→e∈o.after→Region.binds .any e=true→e.on<i)∧
  ∀i j a b,i<j→j<ops.size→ks[i]? =some a→ks[j]? =some b→sI a b=true→ow ops i j:=by
 simp only[tK,eQ]at h
 refine⟨λi o e ho he hb=>?_,λi j a b nt hj ha hb hc=>?_⟩
 ·have:=WZ ops.toList 0 h.1 i o (by rw[F2];exact ho) e he hb;omega
 ·have hm:=WY (ops:=ops) ops.toList [] be be (λk hk=>by simp at hk);have ry:j<(xO ops.toList []).length:=by rw[hm.1];exact hj
  have uW:=W4 _ _ [] h.2 j _ b (ct ry) hb i a (by simpa using nt) (by simpa using ha) hc;exact hm.2 j ry i uW
def wE(σ:Kn)(ds:List (List (Key×Info)×List (Key×Option Info))):Kn:=ds.foldl (λσ d=>dC σ d.2) σ
def ahb(ds:List (List (Key×Info)×List (Key×Option Info)))(ks:List Ks):Prop:=
 ks.length=ds.length∧∀j(h:j<ds.length)(h':j<ks.length),(∀k∈dO ds[j].1,k∈ks[j].1)∧∀k∈fe ds[j].2,k∈ks[j].2
def RG(P:Program)(n:Nat)(ops:Array Oper)(draw:Bool)(nx i:Nat)(os:List Oper)(st:St)(ks:List Ks)(Q:St→Prop):Prop:=
 ops.toList.drop i=os→∃(ds:List (List (Key×Info)×List (Key×Option Info)))(st':St),ds.length=os.length∧
  (∀j(h:j<ds.length),zw P n ops (i+j) ds[j].1 ds[j].2 (sB (λi=>1000000*nx+1000*i) (i+j)))∧
  (∀j(h:j<ds.length),∀kx∈ds[j].1,wE st.kn (ds.take j) kx.1=some kx.2)∧
  st'.kn=wE st.kn ds∧st'.nx=nx+1∧ops.size≤1000∧(draw=true→∃cj,ahb ds cj∧tK ops.toList (ks++cj)=true)∧Q st'
def GL{n:Nat}{ops:Array Oper}{draw:Bool}{nx i:Nat}{sl:List (Nat×AV)}{mem:List (Nat×aJ)}{n0:Nat}{gd:List (Nat×Bool)}{ks:List Ks}{Q:St→Prop}(h:Q ⟨sl,mem,nx+1,[]⟩)(ho:(!draw||tK ops.toList ks)=true:=by kernel_rfl)(cR:Nat.ble ops.size 1000=true:=by rfl):
  RG P n ops draw nx i [] ⟨sl,mem,n0,gd⟩ ks Q:=by
 intro _
 refine⟨[],⟨sl,mem,nx+1,[]⟩,ae,by simp,by simp,ae,ae,cT cR,λhd=>⟨[],⟨ae,λj h=>by simp at h⟩,?_⟩,h⟩
 subst hd
 simpa using ho
def kM{n:Nat}{ops:Array Oper}{draw:Bool}{nx i:Nat}{o:Oper}{os:List Oper}{st st1:St}{ks:List Ks}{k:Ks}{Q:St→Prop}
  (hs:ops[i]? =some o→kY P n ops i st st1 (1000000*nx+1000*i) k) (h:RG P n ops draw nx (i+1) os st1 (ks++[k]) Q):RG P n ops draw nx i (o::os) st ks Q:=by
 intro xR
 have ho:ops[i]? =some o:=by have:=az (λl=>l[0]?) xR;simpa[tv]using this
 have PN:ops.toList.drop (i+1)=os:=by rw[←xF,xR];rfl
 obtain⟨rd,wr,dc,bt,eP,fX,dL⟩:=hs ho
 obtain⟨ds,st',hl,h1,h2,h3,h4,rj,h5,h6⟩:=h PN
 refine⟨(rd,wr)::ds,st',by simp[hl],?_,?_,?_,h4,rj,?_,h6⟩
 ·intro j hj;cases j with
  |zero=>simpa using dc.Wx (new:=sB (λi=>1000000*nx+1000*i) i) ⟨bF _,by show 1000000*nx+1000*i<1000000*nx+1000*(i+1);omega⟩
  |succ j=>
   have:=h1 j yZ
   rw[show i+(j+1)=i+1+j by omega]
   simpa using this
 ·intro j hj kx aS;cases j with
  |zero=>simp only[xx]at aS;simpa[wE]using bt kx aS
  |succ j=>
   simp only[FY]at aS
   have:=h2 j yZ kx aS
   rw[eP]at this
   simpa[wE]using this
 ·rw[h3,eP];simp[wE]
 ·intro hd;obtain⟨cj,⟨lJ,uX⟩,Bp⟩:=h5 hd;refine⟨k::cj,⟨by simp[lJ],λj hj ry=>?_⟩,by simpa using Bp⟩;cases j with
  |zero=>exact⟨fX,dL⟩
  |succ j=>exact uX j yZ (by simpa using ry)
def ahc{n:Nat}{ops:Array Oper}{nx i:Nat}{os:List Oper}{st:St}{ks cj:List Ks}{Q:St→Prop}(h:RG P n ops false nx i os st cj Q):RG P n ops false nx i os st ks Q:=by intro xR;obtain⟨ds,st',hl,h1,h2,h3,h4,rj,_,h6⟩:=h xR;exact⟨ds,st',hl,h1,h2,h3,h4,rj,by simp,h6⟩
def DV{n:Nat}{ops:Array Oper}{draw:Bool}{nx i:Nat}{o:Oper}{os:List Oper}{st st1:St}{ks:List Ks}{k:Ks}{p:Pr}{Q:St→Prop}(aT:cL P tt=true)
  (hs:zF tt n (1000000*nx+1000*i) ops.toList o st=some (st1,p,k)) (hp:p) (h:RG P n ops draw nx (i+1) os st1 (ks++[k]) Q):RG P n ops draw nx i (o::os) st ks Q:=
 kM (λho=>WW aT ho hs hp) h
def fi(draw:Bool)(ks:List Ks)(k:Ks):List Ks:=match draw with
 |true=>ks++[k]
 |false=>[]
def jA{n:Nat}{ops:Array Oper}{draw:Bool}{nx i:Nat}{os:List Oper}{st:St}{ks:List Ks}{k:Ks}{Q:St→Prop}(h:RG P n ops draw nx i os st (fi draw ks k) Q):RG P n ops draw nx i os st (ks++[k]) Q:=by
 cases draw with
 |true=>exact h
 |false=>exact ahc h
def runs(tt:TT)(n nx:Nat)(draw:Bool)(opsL:List Oper):List Oper→Nat→St→Pr→List Ks→List Oper×Nat×St×Pr×List Ks
 |[],i,st,p,ks=>([],i,st,p,ks)
 |o::os,i,st,p,ks=>match zF tt n (1000000*nx+1000*i) opsL o st with
  |some (st',q,k)=>runs tt n nx draw opsL os (i+1) st' (.an p q) (fi draw ks k)
  |none=>(o::os,i,st,p,ks)
def W6{n:Nat}{ops:Array Oper}{draw:Bool}{nx:Nat}{Q:St→Prop}(aT:cL P tt=true):∀(os:List Oper)(i:Nat)(st:St)(p:Pr)(ks:List Ks){cE:List Oper}{i':Nat}{st':St}{p':Pr}{cj:List Ks},
  runs tt n nx draw ops.toList os i st p ks=(cE,i',st',p',cj)→p'.h→(RG P n ops draw nx i' cE st' cj Q)→p.h∧RG P n ops draw nx i os st ks Q
 |[],i,st,p,ks,cE,i',st',p',cj,h,hp,hr=>by simp only[runs,cD]at h;obtain⟨rfl,rfl,rfl,rfl,rfl⟩:=h;exact⟨hp,hr⟩
 |o::os,i,st,p,ks,cE,i',st',p',cj,h,hp,hr=>by
  simp only[runs]at h;split at h
  ·rename_i st1 q k hs;obtain⟨DW,h3⟩:=W6 aT os (i+1) st1 (.an p q) (fi draw ks k) h hp hr;obtain⟨h1,h2⟩:=Pr.DE DW;exact⟨h1,DV aT hs h2 (jA h3)⟩
  ·simp only[cD]at h;obtain⟨rfl,rfl,rfl,rfl,rfl⟩:=h;exact⟨hp,hr⟩
def jB{n:Nat}{ops:Array Oper}{draw:Bool}{nx i:Nat}{os:List Oper}{st:St}{ks:List Ks}{Q:St→Prop}{cE:List Oper}{i':Nat}{st':St}{p':Pr}{cj:List Ks}(aT:cL P tt=true)
  (h:runs tt n nx draw ops.toList os i st .t ks=(cE,i',st',p',cj)) (hp:p') (hr:RG P n ops draw nx i' cE st' cj Q):RG P n ops draw nx i os st ks Q:=
 (W6 aT os i st .t ks h hp hr).2
def Bq{α:Type}(ds:List α)(d:α)(j:Nat)(h:j<ds.length):ds.getD j d=ds[j]:=by rw[aY,ct h];rfl
def KB(ds:List (List (Key×Info)×List (Key×Option Info)))(σ:Kn):∀j,j≤ds.length→fold (λi=>(ds.getD i ([],[])).2) σ (List.range j)=wE σ (ds.take j):=by
 intro j;induction j with
 |zero=>intro _;rfl
 |succ j ih=>
  intro hj
  rw[pW,Pe,ih af,JL af]
  simp only[wE,List.foldl_append,List.foldl_cons,List.foldl_nil]
  rw[Bq ds _ j af]
def kb(st:St):Nat→Prop:=λid=>id<1000000*st.nx
def ahd{ops:Array Oper}{draw:Bool}{st:St}{Q:St→Prop}{F:c8}{id:Nat}{R:Exit→Act→World→Prop}(bt:F.rd=none)(oz:P.follows .mixedOrders=true)(h:RG P F.n ops draw st.nx 0 ops.toList st [] Q)
  (hQ:∀st',Q st'→∀g W a,bJ F (kb st') st'.kn g W a→R .normal a W) {g:Gh} {W:World} {a:Act} (h0:bJ F (kb st) st.kn g W a):(Code.region id ops draw).wp P R a W:=by
 refine(agp bt).1 ?_
 have fF:zv F.rd ops:=by rw[bt];exact ago
 obtain⟨ds,st',hl,h1,h2,h3,h4,rj,h5,h6⟩:=h be
 have Gk:ds.length=ops.size:=FN
 have hs:∀i,i<ops.size→zw P F.n ops i ((ds.getD i ([],[])).1) ((ds.getD i ([],[])).2) (sB (λi=>1000000*st.nx+1000*i) i):=by intro i hi;have:=h1 i af;rw[Bq ds _ i af];simpa using this
 have ht:∀i,i<ops.size→∀kx∈(ds.getD i ([],[])).1,fold (λi=>(ds.getD i ([],[])).2) st.kn (List.range i) kx.1=some kx.2:=by intro i hi kx aS;rw[KB ds st.kn i af];rw[Bq ds _ i af]at aS;exact h2 i af kx aS
 have tL:∀g W a,bJ F (·<1000000*st.nx+1000*ops.size) (fold (λi=>(ds.getD i ([],[])).2) st.kn (List.range ops.size)) g W a→R .normal a W:=by intro g W a hh;refine hQ st' h6 g W a ?_;rw[h3];rw[KB ds st.kn ops.size af,lD af]at hh;exact hh.weaken (λid al=>by simp only[kb,h4];omega)
 cases draw with
 |false=>exact Wy (c:=λi=>1000000*st.nx+1000*i) (λi=>by show 1000000*st.nx+1000*i≤1000000*st.nx+1000*(i+1);omega) h0 hs ht tL fF
 |true=>
  obtain⟨ks,⟨ru,zG⟩,Bp⟩:=h5 ae
  have ho:=W5 Bp
  have Br:∀i j,i<j→j<ops.size→∀a b:Ks,(ks[i]? =some a→ks[j]? =some b→sI a b=true→ow ops i j):=by intro i j nt hj a b ha hb hc;exact ho.2 i j a b nt hj (by simpa using ha) (by simpa using hb) hc
  have mV:∀i(hi:i<ops.size),∃a,ks[i]? =some a∧(∀k∈dO (ds.getD i ([],[])).1,k∈a.1)∧∀k∈fe (ds.getD i ([],[])).2,k∈a.2:=by intro i hi;have tM:i<ks.length:=af;refine⟨ks[i],ct tM,?_⟩;rw[Bq ds _ i af];exact zG i af tM
  refine WA (c:=λi=>1000000*st.nx+1000*i) (λi=>by show 1000000*st.nx+1000*i≤1000000*st.nx+1000*(i+1);omega) oz ho.1 h0 hs ht ?_ ?_ ?_ tL fF
  ·intro i j nt hj k fX dL;obtain⟨a,ha,_,wF⟩:=mV i af;obtain⟨b,hb,_,dK⟩:=mV j hj;exact Br i j nt hj a b ha hb (by simp only[sI,DU (wF k fX) (dK k dL),O3])
  ·intro i j nt hj k fX dL;obtain⟨a,ha,_,wF⟩:=mV i af;obtain⟨b,hb,jl,_⟩:=mV j hj;exact Br i j nt hj a b ha hb (by simp only[sI,DU (wF k fX) (jl k dL),O3,O4])
  ·intro i j nt hj k fX dL;obtain⟨a,ha,wG,_⟩:=mV i af;obtain⟨b,hb,_,dK⟩:=mV j hj;exact Br i j nt hj a b ha hb (by simp only[sI,DU (wG k fX) (dK k dL),O4])
end
def jb:Nat→Value:=λ_=>undef
def jo(g:Gh):List AV→List Value→Prop
 |[],vs=>vs=[]
 |x::xs,vs=>∃v r,vs=v::r∧bP g x v∧jo g xs r
def fH:List AV→List Nat
 |[]=>[]
 |x::xs=>x.aD++fH xs
def bP.hJ{g:Gh}{x:AV}{v:Value}(h:bP g x v)(hm:x.aD=[]){H:FH}(hl:cC g.H H)(γ:Nat→Value):bP ⟨H,γ⟩ x v:=
 bP.mono (known:=λ_=>False) ⟨hl,λ_ h=>h.elim⟩ (by simp[hm]) h
def jo.hJ{g:Gh}{γ:Nat→Value}:∀{xs:List AV}{vs:List Value},jo g xs vs→fH xs=[]→jo ⟨g.H,γ⟩ xs vs
 |[],_,h,_=>h
 |x::xs,_,h,hm=>by simp only[fH,FZ]at hm;obtain⟨v,r,rfl,h1,h2⟩:=h;exact⟨v,r,ae,h1.hJ hm.1 (cC.refl _) γ,h2.hJ hm.2⟩
def KC(W:World)(H:FH)(r:AV)(e:Ending)(W':World):Prop:=
 ∃v H',e= .returned v∧bP ⟨H',jb⟩ r v∧cC H H'∧(∀b o,b<W.heap.size→H' b o=H b o)∧Sub H' W'∧Below W.heap.size W W'
def ml(P:Program)(f:FuncId):Bool:=match P.funcs[f]? with
 |some fn=>fn.name != "runtime.NumGoroutine" &&fn.body.isSome
 |none=>false
structure aG(P:Program)(f:FuncId)(args:List AV)(r:AV):Prop where
 call:ml P f=true
 hJ:r.aD=[]
 spec:∀H W vs,Sub H W→jo ⟨H,jb⟩ args vs→Calls P f vs.toArray W (KC W H r)
section
variable{P:Program}{tt:TT}
def kB(st:St):List Operand→Option (List AV)
 |[]=>some []
 |x::xs=>match st.ev x,kB st xs with
  |some v,some vs=>some (v::vs)
  |_,_=>none
def zH{F:c8}{known:Nat→Prop}{σ:Kn}{g:Gh}{W:World}{a:Act}(h:bJ F known σ g W a)(st:St):∀(xs:List Operand)(vs:List AV),kB st xs=some vs→
  (∀kx∈xs.flatMap (dQ st),σ kx.1=some kx.2)→jo g vs (xs.map a.eval)
 |[],vs,he,_=>by simp only[kB,aO]at he;subst he;rfl
 |x::xs,vs,he,hr=>by
  simp only[kB]at he;split at he
  ·rename_i v DX hv GG;simp only[aO]at he;subst he;refine⟨_,_,ae,gy h st x v hv (λkx aS=>hr kx jt),zH h st xs DX GG (λkx aS=>hr kx ?_)⟩;simp only[gJ,bX];exact .inr aS
  ·simp at he
def PO{n new:Nat}{ops:Array Oper}{i:Nat}{o:Oper}(ho:ops[i]? =some o)(hg:o.guard=none){d:Nat}(hd:o.dst=some d)(aV:d<n){f:FuncId}{args:Array Operand}{di:Array TypeId}(b9:o.op= .call ⟨.value (.func f),args,di⟩)
  {st:St} {vs:List AV} {r:AV} (hv:kB st args.toList=some vs) (hm:fH vs=[]) (hf:aG P f vs r):kY P n ops i st (st.put d r) new (cF args.toList,[.s d]):=by
 refine⟨args.toList.flatMap (dQ st),[(.s d,some (.v r))],?_,?_,nV st d r,fR st _,λk hk=>by simpa[fe]using hk⟩
 ·intro F fW Q known σ g W a K dT aH bt hK;have kv:=(zH aH st _ _ hv bt).hJ (γ:=jb) hm;have hc:=hf.spec g.H W _ aH.sub kv;unfold wpOp;simp only[ho,Region.wanted,hg,cM];refine .inl ?_;unfold Oper.wp;have hex:(execOp a.eval o).run P W= .ok (.enter f (args.map a.eval)) W:=by
   have cw:=hf.call;unfold ml at cw;rw[execOp,b9];cases iv:P.funcs[f]? with
   |none=>rw[iv]at cw;simp at cw
   |some fn=>
    rw[iv]at cw
    simp only[eQ,bne_iff_ne,ne_eq]at cw
    have h2:fn.body≠none:=by intro hb;rw[hb]at cw;simp at cw
    simp[resolve,Act.eval,Deferred.ofValue,invoke,callFunc,iv,cw.1,h2]
  rw[hex];simp only[Oper.upon];have iL:(args.map a.eval)=(args.toList.map a.eval).toArray:=vX;rw[iL];refine hc.mono ?_;rintro e W' ⟨v,H',rfl,bU,hle,lK,eI,eJ⟩;simp only[hd];have cR:d<a.tmps.size:=qY;refine hK ⟨H',g.γ⟩ W' _ (aH.step (chg:=λ_=>False) (g':=⟨H',g.γ⟩) ⟨⟨hle,λ_ _=>rfl⟩,lK,eI,eJ.size,λk hk _=>eJ.block k hk,eJ.os,eJ.tape,eJ.output⟩ _ new dT sc aH.defers ?_ (λ_ h=>h.elim) ?_ ?_ ?_ ?_)
  ·intro t ht;have aN:d≠t:=ts;simp[Act.put,nN aN]
  ·intro t u ht;simp only[a9]at ht;split at ht
   ·rename_i e;simp only[Key.s.injEq]at e;simp only[aO,Info.v.injEq]at ht;subst e;subst ht;have:=bU.hJ hf.hJ (cC.refl _) g.γ;simpa[Act.put,cR]using this
   ·simp at ht
  ·intro id b ht;simp[a9]at ht
  ·intro k y ht;simp only[a9]at ht;split at ht
   ·simp only[aO]at ht;subst ht;intro id al;have:id∈r.aD:=al;rw[hf.hJ]at this;cases this
   ·simp at ht
  ·intro id y ht;simp[a9]at ht
 ·intro kx aS;obtain⟨x,_,h⟩:=jE.1 aS;exact fY st x kx h
def ahe{n:Nat}{ops:Array Oper}{draw:Bool}{nx i:Nat}{d f:Nat}{args:Array Operand}{di:Array TypeId}{ty:TypeId}{pos:String}{cJ:Array Edge}{os:List Oper}{sl:List (Nat×AV)}{mem:List (Nat×aJ)}{n0:Nat}{gd:List (Nat×Bool)}{ks:List Ks}{Q:St→Prop}{vs:List AV}{r:AV}
  (hv:kB ⟨sl,mem,n0,gd⟩ args.toList=some vs) (hf:aG P f vs r) (h:RG P n ops draw nx (i+1) os ⟨(d,r)::sl,mem,n0,gd⟩ (fi draw ks (cF args.toList,[.s d])) Q) (hm:fH vs=[]:=by rfl) (aV:Nat.blt d n=true:=by rfl):
  RG P n ops draw nx i (⟨some d,.call ⟨.value (.func f),args,di⟩,ty,pos,cJ,none⟩::os) ⟨sl,mem,n0,gd⟩ ks Q:=
 kM (λho=>PO ho ae ae (cT aV) ae hv hm hf) (jA h)
def ahf{n:Nat}{ops:Array Oper}{draw:Bool}{nx i:Nat}{d f:Nat}{args:Array Operand}{di:Array TypeId}{ty:TypeId}{pos:String}{cJ:Array Edge}{j tg:Nat}{want b:Bool}{os:List Oper}{sl:List (Nat×AV)}{mem:List (Nat×aJ)}{n0:Nat}{gd:List (Nat×Bool)}{ks:List Ks}{Q:St→Prop}{vs:List AV}{r:AV}
  (hj:wD ops.toList j=some tg) (hb:ao tg sl=some (.c (.B b))) (uV:b=want)
  (hv:kB ⟨sl,mem,n0,gd⟩ args.toList=some vs) (hf:aG P f vs r) (h:RG P n ops draw nx (i+1) os ⟨(d,r)::sl,mem,n0,gd⟩ (fi draw ks (.s tg::cF args.toList,[.s d])) Q) (hm:fH vs=[]:=by rfl) (aV:Nat.blt d n=true:=by rfl):
  RG P n ops draw nx i (⟨some d,.call ⟨.value (.func f),args,di⟩,ty,pos,cJ,some (j,want)⟩::os) ⟨sl,mem,n0,gd⟩ ks Q:=
 kM (λho=>KA ho ae hj hb uV (PO (ops:= #[⟨some d,.call ⟨.value (.func f),args,di⟩,ty,pos,cJ,none⟩]) (i:=0) ae ae ae (cT aV) ae hv hm hf)) (jA h)
def ahg{n:Nat}{ops:Array Oper}{draw:Bool}{nx i:Nat}(t:Nat){b:Bool}{os:List Oper}{sl:List (Nat×AV)}{mem:List (Nat×aJ)}{n0:Nat}{gd:List (Nat×Bool)}{ks:List Ks}{Q:St→Prop}(hb:ao t sl=some (.c (.B b)))
  (ht:b=true→RG P n ops draw nx i os ⟨(t,.c (.B true))::sl,mem,n0,(t,true)::gd⟩ ks Q)
  (hf:b=false→RG P n ops draw nx i os ⟨(t,.c (.B false))::sl,mem,n0,(t,false)::gd⟩ ks Q):RG P n ops draw nx i os ⟨sl,mem,n0,gd⟩ ks Q:=by
 have key:∀c:Bool,b=c→(⟨(t,.c (.B c))::sl,mem,n0,(t,c)::gd⟩:St).kn=(⟨sl,mem,n0,gd⟩:St).kn:=by
  intro c e;subst e;funext k;cases k with
  |s t'=>
   by_cases e:t=t'
   ·subst e;simp[St.kn,ao,hb]
   ·simp[St.kn,ao,e]
  |m id=>rfl
 cases b with
 |true=>
  intro h1
  obtain⟨ds,st',r⟩:=ht ae h1
  rw[key true ae]at r
  exact⟨ds,st',r⟩
 |false=>
  intro h1
  obtain⟨ds,st',r⟩:=hf ae h1
  rw[key false ae]at r
  exact⟨ds,st',r⟩
structure c8.pl(F:c8)(n:Nat):Prop where
 n:F.n=n
 k0:F.k0≤1
 rd:F.rd=none
 ds:F.ds=[]
abbrev fA:=c8→Exit→Act→World→Prop
def TR(P:Program)(n:Nat)(c:Code)(st:St)(Q:fA):Prop:=∀F:c8,F.pl n→∀g W a,bJ F (kb st) st.kn g W a→c.wp P (Q F) a W
def fZ(n:Nat)(e:Exit)(st:St)(Q:fA):Prop:=∀F:c8,F.pl n→∀g W a,bJ F (kb st) st.kn g W a→Q F e a W
def zI(P:Program)(y:Code)(Q:fA):fA:=λF=>Exit.then (λa W=>y.wp P (Q F) a W) (Q F)
def Bs(id:Nat)(Q:fA):fA:=λF=>Exit.inBlock id (Q F)
def KD{α:Type}(iw:α→St)(φ:α→Prop)(μ:α→Nat)(x:α)(Q:fA):fA:=λF=>Exit.then (λa W=>∃x' g,φ x'∧μ x'<μ x∧bJ F (kb (iw x')) (iw x').kn g W a) (Q F)
variable{n:Nat}{Q:fA}{st:St}
def aj{x y:Code}(h:TR P n x st (zI P y Q)):TR P n (.seq x y) st Q:=λF hF g W a hh=>wp_seq (h F hF g W a hh)
def aC(h:fZ n .normal st Q):TR P n .skip st Q:=λF hF g W a hh=>wp_skip (h F hF g W a hh)
def bp{id:Nat}(h:fZ n (.exit id) st Q):TR P n (.exit id) st Q:=λF hF g W a hh=>wp_exit (h F hF g W a hh)
def aF(h:fZ n .ret st Q):TR P n .ret st Q:=λF hF g W a hh=>wp_ret (h F hF g W a hh)
def aK{id:Nat}{c:Code}(h:TR P n c st (Bs id Q)):TR P n (.block id c) st Q:=λF hF g W a hh=>wp_block (h F hF g W a hh)
def ax{c:Operand}{x y:Code}{b:Bool}(hc:st.ev c=some (.c (.B b)))(ht:b=true→TR P n x st Q)(hf:b=false→TR P n y st Q):TR P n (.cond c x y) st Q:=by intro F hF g W a hh;have hr:bP g (.c (.B b)) (a.eval c):=gy hh st c _ hc (fY st c);exact wp_cond_split hr (λe=>ht e F hF g W a hh) (λe=>hf e F hF g W a hh)
def KE{id:Nat}{ops:Array Oper}{draw:Bool}(oz:P.follows .mixedOrders=true)(h:RG P n ops draw st.nx 0 ops.toList st [] (λst'=>fZ n .normal st' Q)):TR P n (.region id ops draw) st Q:=by intro F hF g W a hh;have hn:=hF.n;subst hn;exact ahd hF.rd oz h (λst' hq g W a GM=>hq F hF g W a GM) hh
def ai{y:Code}(h:TR P n y st Q):fZ n .normal st (zI P y Q):=h
def bu{y:Code}{id:Nat}(h:fZ n (.exit id) st Q):fZ n (.exit id) st (zI P y Q):=h
def bW{y:Code}(h:fZ n .ret st Q):fZ n .ret st (zI P y Q):=h
def a7{id:Nat}(h:fZ n .normal st Q):fZ n .normal st (Bs id Q):=h
def fC{id:Nat}(h:fZ n .ret st Q):fZ n .ret st (Bs id Q):=h
def bq{id:Nat}(h:fZ n .normal st Q):fZ n (.exit id) st (Bs id Q):=λF hF g W a hh=>by simp only[Bs,Exit.inBlock,cM];exact h F hF g W a hh
def GN{id b6:Nat}(h:fZ n (.exit b6) st Q)(aN:b6≠id:=by decide):fZ n (.exit b6) st (Bs id Q):=λF hF g W a hh=>by simp only[Bs,Exit.inBlock,aN,cP];exact h F hF g W a hh
def br{α:Type}{iw:α→St}{φ:α→Prop}{μ:α→Nat}{x:α}{id:Nat}(h:fZ n (.exit id) st Q):fZ n (.exit id) st (KD iw φ μ x Q):=h
def ix{α:Type}{iw:α→St}{φ:α→Prop}{μ:α→Nat}{x:α}(h:fZ n .ret st Q):fZ n .ret st (KD iw φ μ x Q):=h
def Wk(st st':St):Prop:=∀F:c8,F.k0≤1→∀g W a,bJ F (kb st) st.kn g W a→∃g',bJ F (kb st') st'.kn g' W a
def a8{α:Type}{iw:α→St}{φ:α→Prop}{μ:α→Nat}{x:α}(x':α)(h1:φ x')(h2:μ x'<μ x)(hw:Wk st (iw x')):fZ n .normal st (KD iw φ μ x Q):=by intro F hF g W a hh;obtain⟨g',h'⟩:=hw F hF.k0 g W a hh;exact⟨x',g',h1,h2,h'⟩
def ahh{c:Code}{α:Type}(I:α→Act→World→Prop)(μ:α→Nat){Q:Exit→Act→World→Prop}(x:α){a:Act}{w:World}(h₀:I x a w)
  (round:∀x a w,I x a w→c.wp P (Exit.then (λa' w'=>∃x',I x' a' w'∧μ x'<μ x) Q) a w):(Code.loop c).wp P Q a w:=by
 intro b k cs
 have key:∀n x a w,μ x=n→I x a w→
   ∃e a' w',Q e a' w'∧Arrives P (lone (b.at a (.code c:: .inLoop c::k)) cs w) b k cs e a' w':=by
  intro n
  induction n using Nat.strongRecOn with
  |_ n ih=>
   intro x a w hn hI
   obtain⟨e,a₁,w₁,hq,iL⟩:=round x a w hI b (.inLoop c::k) cs
   cases e with
   |normal=>
    obtain⟨x',PQ,bh⟩:=hq
    obtain⟨e₂,a₂,w₂,PR,PU⟩:=ih (μ x') (hn▸bh) x' a₁ w₁ ae PQ
    exact⟨e₂,a₂,w₂,PR,.of_steps (Steps.trans iL (.one step_inLoop)) PU⟩
   |exit id=>exact⟨_,a₁,w₁,hq,.pass (x:= .inLoop c) ae (λ_ _=> .inl be) iL⟩
   |goto l=>exact⟨_,a₁,w₁,hq,.pass (x:= .inLoop c) ae (λ_ _=> .inl be) iL⟩
   |ret=>exact⟨_,a₁,w₁,hq,.pass (x:= .inLoop c) ae (λ_ _=> .inl be) iL⟩
   |panic ch=>exact⟨_,a₁,w₁,hq,.pass (x:= .inLoop c) ae (λ_ _=> .inl be) iL⟩
   |outgrown=>exact⟨_,a₁,w₁,hq,.pass (x:= .inLoop c) ae (λ_ _=> .inl be) iL⟩
 obtain⟨e,a',w',hq,iL⟩:=key _ x a w ae h₀
 exact⟨e,a',w',hq,.of_steps (.one step_loop) iL⟩
def bA{α:Type}(iw:α→St)(φ:α→Prop)(μ:α→Nat)(x0:α){c:Code}(h0:φ x0)(hw:Wk st (iw x0))(round:∀x,φ x→TR P n c (iw x) (KD iw φ μ x Q)):TR P n (.loop c) st Q:=by
 intro F hF g W a hh;obtain⟨g',h'⟩:=hw F hF.k0 g W a hh;refine ahh (λx a W=>φ x∧∃g,bJ F (kb (iw x)) (iw x).kn g W a) μ x0 ⟨h0,g',h'⟩ ?_;rintro x a W ⟨hφ,g,hg⟩;refine wp_mono (round x hφ F hF g W a hg) ?_;intro e a' W' hq;cases e with
 |normal=>
  obtain⟨x',PV,h1,h2,h3⟩:=hq
  exact⟨x',⟨h1,PV,h3⟩,h2⟩
 |_=>exact hq
end
section
variable{P:Program}{tt:TT}{n:Nat}{Q:fA}{st:St}
def au(v v':AV):Prop:=(∀g x,bP g v x→bP g v' x)∧∀id∈v'.aD,id∈v.aD
def au.refl(v:AV):au v v:=⟨λ_ _ h=>h,λ_ h=>h⟩
def au.of_eq{v v':AV}(h:v=v'):au v v':=h▸au.refl v
def au.nil(T:ET):au (.c (.V (.slice none 0 0))) (.c (.S T [])):=⟨λg x h=>by have h':x= .slice none 0 0:=h;subst h';exact⟨none,0,ae,bF _,by simp,.inl ae⟩,by simp[AV.aD,C.aD]⟩
def dd(b b':aJ):Prop:=(∀N g W id,ji N g W id b→ji N g W id b')∧∀id∈b'.aD,id∈b.aD
def dd.refl(b:aJ):dd b b:=⟨λ_ _ _ _ h=>h,λ_ h=>h⟩
def dd.of_eq{b b':aJ}(h:b=b'):dd b b':=h▸dd.refl b
def xS(l:List (Nat×AV)):List (Nat×AV)→Prop
 |[]=>True
 | (t,v')::r=>(∃v,ao t l=some v∧au v v')∧xS l r
def iM(l:List (Nat×aJ)):List (Nat×aJ)→Prop
 |[]=>True
 | (t,v')::r=>(∃v,ao t l=some v∧dd v v')∧iM l r
def xS.get{l:List (Nat×AV)}:∀{m:List (Nat×AV)},xS l m→∀{t v'},ao t m=some v'→∃v,ao t l=some v∧au v v'
 |[],_,_,_,h=>by simp[ao]at h
 | (k,x)::m,hw,t,v',h=>by
  simp only[ao]at h;split at h
  ·rename_i e;subst e;cases h;exact hw.1
  ·exact xS.get hw.2 h
def iM.get{l:List (Nat×aJ)}:∀{m:List (Nat×aJ)},iM l m→∀{t v'},ao t m=some v'→∃v,ao t l=some v∧dd v v'
 |[],_,_,_,h=>by simp[ao]at h
 | (k,x)::m,hw,t,v',h=>by
  simp only[ao]at h;split at h
  ·rename_i e;subst e;cases h;exact hw.1
  ·exact iM.get hw.2 h
def sJ(b:Nat):List Nat→Bool
 |[]=>true
 |id::r=>Nat.blt id b&&sJ b r
def sK(b:Nat):List (Nat×AV)→Bool
 |[]=>true
 | (_,v)::r=>sJ b v.aD&&sK b r
def nw(b:Nat):List (Nat×aJ)→Bool
 |[]=>true
 | (id,v)::r=>Nat.blt id b&&sJ b v.aD&&nw b r
def KF{b:Nat}:∀{l:List Nat},sJ b l=true→∀id∈l,id<b
 |[],_,_,h=>by simp at h
 |j::r,hb,id,h=>by
  simp only[sJ,eQ]at hb;rcases dx.1 h with rfl|h
  ·exact cT hb.1
  ·exact KF hb.2 id h
def zJ{b:Nat}:∀{l:List (Nat×AV)},sK b l=true→∀t v,ao t l=some v→∀id∈v.aD,id<b
 |[],_,_,_,h=>by simp[ao]at h
 | (k,x)::r,hb,t,v,h=>by
  simp only[sK,eQ]at hb;simp only[ao]at h;split at h
  ·cases h;exact KF hb.1
  ·exact zJ hb.2 t v h
def KG{b:Nat}:∀{l:List (Nat×aJ)},nw b l=true→∀t v,ao t l=some v→t<b∧∀id∈v.aD,id<b
 |[],_,_,_,h=>by simp[ao]at h
 | (k,x)::r,hb,t,v,h=>by
  simp only[nw,eQ]at hb;simp only[ao]at h;split at h
  ·rename_i e;subst e;cases h;exact⟨cT hb.1.1,KF hb.1.2⟩
  ·exact KG hb.2 t v h
def wk{st st':St}(hs:xS st.sl st'.sl)(hm:iM st.mem st'.mem)(hn:(sK (1000000*st'.nx) st'.sl&&nw (1000000*st'.nx) st'.mem&&(Nat.ble 1 st'.nx||Nat.ble st.nx 0))=true:=by rfl):Wk st st':=by
 intro F gM g W a h;simp only[eQ,zd]at hn;obtain⟨hn,eS⟩:=hn;have xT:∀id,id<F.k0→kb st' id∧g.γ id=F.γ0 id:=by
  intro id al;obtain⟨h1,h2⟩:=h.iu id al;refine⟨?_,h2⟩;have h1:id<1000000*st.nx:=h1;show id<1000000*st'.nx;rcases eS with e|e
  ·have:=cT e;omega
  ·have:=cT e;omega
 have hS:∀t v',st'.kn (.s t)=some (.v v')→(∃v,st.kn (.s t)=some (.v v)∧au v v')∧∀id∈v'.aD,id<1000000*st'.nx:=by intro t v' e;simp only[St.kn,cq]at e;obtain⟨x,hx,he⟩:=e;cases he;obtain⟨v,hv,hle⟩:=hs.get hx;exact⟨⟨v,by simp[St.kn,hv],hle⟩,zJ hn.1 t v' hx⟩
 have hM:∀id b',st'.kn (.m id)=some (.b b')→(∃b,st.kn (.m id)=some (.b b)∧dd b b')∧id<1000000*st'.nx∧∀j∈b'.aD,j<1000000*st'.nx:=by intro t v' e;simp only[St.kn,cq]at e;obtain⟨x,hx,he⟩:=e;cases he;obtain⟨v,hv,hle⟩:=hm.get hx;exact⟨⟨v,by simp[St.kn,hv],hle⟩,KG hn.2 t v' hx⟩
 refine⟨g,h.size,h.defers,?_,?_,?_,?_,?_,h.sub,h.below,h.le,h.fresh,xT⟩
 ·intro t v' e;obtain⟨⟨v,hv,hle⟩,_⟩:=hS t v' e;exact hle.1 _ _ (h.gw t v hv)
 ·intro id b' e;obtain⟨⟨b,hb,hle⟩,_⟩:=hM id b' e;exact hle.1 _ _ _ _ (h.c9 id b hb)
 ·intro id b6 b b' k e e' hk du;obtain⟨⟨c,hc,_⟩,_⟩:=hM id b e;obtain⟨⟨c',pf,_⟩,_⟩:=hM b6 b' e';exact h.inj id b6 c c' k hc pf hk du
 ·intro k x e id al;cases k with
  |s t=>
   cases x with
   |v v'=>exact(hS t v' e).2 id al
   |b b'=>simp only[St.kn,cq]at e;obtain⟨_,_,he⟩:=e;cases he
  |m j=>
   cases x with
   |v v'=>simp only[St.kn,cq]at e;obtain⟨_,_,he⟩:=e;cases he
   |b b'=>exact(hM j b' e).2.2 id al
 ·intro id x e;cases x with
  |v v'=>simp only[St.kn,cq]at e;obtain⟨_,_,he⟩:=e;cases he
  |b b'=>exact(hM id b' e).2.1
def dv{c:Code}{st':St}(hw:Wk st st')(h:TR P n c st' Q):TR P n c st Q:=by intro F hF g W a hh;obtain⟨g',h'⟩:=hw F hF.k0 g W a hh;exact h F hF g' W a h'
def PW{e:Exit}{st':St}(hw:Wk st st')(h:fZ n e st' Q):fZ n e st Q:=by intro F hF g W a hh;obtain⟨g',h'⟩:=hw F hF.k0 g W a hh;exact h F hF g' W a h'
def KH(P:Program)(fn:Func)(r:AV):fA:=λF e a W=>(∀b,¬F.own b)→bodyPost P fn (KC F.w0 F.H0 r) e a W
def Bt(tt:TT)(st:St):ResultVar→Option AV
 | .tmp t=>ao t st.sl
 | .cell t ty=>(match ao t st.sl with
  |some (.c (.P id off))=>(match ao id st.mem,p7 tt ty with
   |some (.box _ _ cs),some (sz,ag)=>o8 cs off sz ag
   |_,_=>none)
  |_=>none)
def wH:AV→Option (Bool×List C)
 | .c x=>some (false,[x])
 | .a cs=>some (true,cs)
 | .t _=>none
def DY(tt:TT)(st:St):List ResultVar→Option (List (Bool×List C))
 |[]=>some []
 |x::xs=>(match Bt tt st x with
  |some v=>(match wH v,DY tt st xs with
   |some s,some r=>some (s::r)
   |_,_=>none)
  |none=>none)
def tN(tt:TT)(st:St):List ResultVar→Option AV
 |[x]=>Bt tt st x
 |xs=>(DY tt st xs).map .t
def Bu(tmps:Array Value):ResultVar→Go.Sem Value
 | .tmp t=>pure (tmps.getD t undef)
 | .cell b t=>do loadVar t (←asAddr (tmps.getD b undef))
def W7(aT:cL P tt=true){F:c8}{known:Nat→Prop}{g:Gh}{W:World}{a:Act}(h:bJ F known st.kn g W a){x:ResultVar}{v:AV}(hv:Bt tt st x=some v):
  ∃u,(Bu a.tmps x).run P W= .ok u W∧bP g v u:=by
 cases x with
 |tmp t=>
  simp only[Bt]at hv
  exact⟨_,by simp[Bu,pure],h.gw t v JF⟩
 |cell b t=>
  simp only[Bt]at hv
  split at hv
  ·rename_i id off hl;split at hv
   ·rename_i E bz cs sz ag hm j8;obtain⟨b',vs,rest,hγ,hh,hr,_,_⟩:=h.c9 id (.box E bz cs) (by simp[St.kn,hm]);obtain⟨Gl,fl,hp⟩:=h.gw b (.c (.P id off)) (by simp[St.kn,hl]);rw[hγ]at fl;simp only[aO]at fl;subst fl;obtain⟨u,bZ,hu⟩:=Gz (W:=W) aT j8 hr hv b' 0 (λj hj=>by have:=tI hh j cO;rw[y9 hj]at this;simpa using this);refine⟨u,?_,hu⟩;simp only[eR]at bZ;simp only[Bu,hp,asAddr];simpa[Instr.loadAt,Instr.sureAddr]using bZ
   ·simp at hv
  ·simp at hv
def W8{g:Gh}{v:AV}{s:Bool×List C}(h:wH v=some s){u:Value}(hr:bP g v u):Bd g s u:=by
 cases v with
 |c x=>simp only[wH,aO]at h;subst h;exact hr
 |a cs=>simp only[wH,aO]at h;subst h;exact hr
 |t _=>simp[wH]at h
def Bv(aT:cL P tt=true){F:c8}{known:Nat→Prop}{g:Gh}{W:World}{a:Act}(h:bJ F known st.kn g W a){fn:Func}{rs:List ResultVar}(fG:fn.results=rs.toArray){v:AV}(hv:tN tt st rs=some v):
  ∃u,(results fn a.tmps).run P W= .ok u W∧bP g v u:=by
 have hl:∀(rs:List ResultVar)(ss:List (Bool×List C)),DY tt st rs=some ss→∃us:List Value,(rs.mapM (Bu a.tmps)).run P W= .ok us W∧dt g ss us∧us.length=rs.length:=by
  intro rs;induction rs with
  |nil=>intro ss qh;simp only[DY,aO]at qh;subst qh;exact⟨[],by simp[pure],ae,ae⟩
  |cons x xs ih=>
   intro ss qh
   simp only[DY]at qh
   split at qh
   ·rename_i v1 ku;split at qh
    ·rename_i s r hs hr;simp only[aO]at qh;subst qh;obtain⟨u,hu,bU⟩:=W7 aT h ku;obtain⟨us,ja,xU,hlen⟩:=ih r hr;refine⟨u::us,?_,⟨u,us,ae,W8 hs bU,xU⟩,by simp[hlen]⟩;rw[List.mapM_cons];simp only[Sem.run_bind,hu,Result.andThen,ja];simp[pure]
    ·simp at qh
   ·simp at qh
 have e:results fn a.tmps=(do let vs ←rs.toArray.mapM (Bu a.tmps);pure (if h:vs.size=1 then vs[0]else .tuple vs)):=by unfold results;rw[fG];rfl
 have KJ:Array.mapM (Bu a.tmps) rs.toArray=Functor.map List.toArray (rs.mapM (Bu a.tmps)):=be
 rw[e,KJ]
 match rs,hv with
 |[],hv=>
  simp only[tN,DY,OW,aO]at hv
  subst hv
  exact⟨.tuple #[],by simp[Sem.run,pure],[],ae,ae⟩
 |[x],hv=>
  obtain⟨u,hu,bU⟩:=W7 aT h hv
  refine⟨u,?_,bU⟩
  simp[hu,Sem.run,pure]
 |x::y::r,hv=>
  simp only[tN,cq]at hv
  obtain⟨ss,qh,rfl⟩:=hv
  obtain⟨us,ja,xU,hlen⟩:=hl _ ss qh
  refine⟨.tuple us.toArray,?_,us,ae,xU⟩
  have h1:us.toArray.size≠1:=by simp[hlen]
  simp only[map_eq_pure_bind,bind_assoc,pure_bind,Sem.run_bind,ja,Result.andThen]
  rw[dif_neg h1]
  rfl
def aL(aT:cL P tt=true){fn:Func}{rs:List ResultVar}{r' r:AV}(hr:tN tt st rs=some r')(hle:au r' r)(fG:fn.results=rs.toArray:=by rfl)(hm:r.aD=[]:=by rfl):fZ n .ret st (KH P fn r):=by intro F hF g W a h sL;obtain⟨u,hu,bU⟩:=Bv aT h fG hr;refine⟨h.defers.trans hF.ds,u,hu,u,g.H,ae,?_,h.le,λb o hb=>h.fresh b o hb (sL b),h.sub,⟨h.below.os,h.below.tape,h.below.output,h.below.size,λk hk=>h.below.block k hk (sL k)⟩⟩;exact(hle.1 _ _ bU).hJ hm (cC.refl _) jb
def ahi(aT:cL P tt=true){fn:Func}{rs:List ResultVar}{r' r:AV}(hr:tN tt st rs=some r')(hle:au r' r)(fG:fn.results=rs.toArray:=by rfl)(hm:r.aD=[]:=by rfl):fZ n .normal st (KH P fn r):=
 λF hF g W a h=>aL aT hr hle fG hm F hF g W a h
def kZ:Nat→List AV→List (Nat×AV)
 |_,[]=>[]
 |i,v::vs=>(i,v)::kZ (i+1) vs
def pj{g:Gh}:∀(vs:List AV)(us:List Value)(i:Nat),jo g vs us→∀t v,ao t (kZ i vs)=some v→i≤t∧∃u,us[t-i]? =some u∧bP g v u∧∀id∈v.aD,id∈fH vs
 |[],_,i,_,t,v,h=>by simp[kZ,ao]at h
 |x::vs,_,i,hr,t,v,h=>by
  obtain⟨u,r,rfl,h1,h2⟩:=hr;simp only[kZ,ao]at h;split at h
  ·rename_i e;subst e;cases h;exact⟨bF _,u,by simp,h1,λid al=>by simp[fH,al]⟩
  ·obtain⟨h3,u',h4,h5,h6⟩:=pj vs r (i+1) h2 t v h;refine⟨by omega,u',?_,h5,λid al=>by simp[fH,h6 id al]⟩;rw[show t-i=(t-(i+1))+1 by omega];simpa using h4
def zK{g:Gh}:∀{vs:List AV}{us:List Value},jo g vs us→us.length=vs.length
 |[],_,h=>by simp only[jo]at h;subst h;rfl
 |_::vs,_,h=>by obtain⟨u,r,rfl,_,h2⟩:=h;simp[zK h2]
def aX{f:FuncId}{fn:Func}{c:Code}{args:List AV}{r:AV}(hf:P.funcs[f]? =some fn)(hb:fn.body=some c)(hN:fn.ntmps=n)(hle:Nat.ble args.length n=true)(mm:fH args=[])(Bx:r.aD=[])(sM:(fn.name != "runtime.NumGoroutine")=true)
  (h:TR P n c ⟨kZ 0 args,[],0,[]⟩ (KH P fn r)):aG P f args r:=by
 refine⟨by simp[ml,hf,hb,sM],Bx,?_⟩
 intro H W vs eI bU
 refine calls_of_wp hf hb ?_
 have hlen:=zK bU
 have hle:=cT hle
 refine wp_mono (h {w0:=W,H0:=H,n:=n} ⟨ae,bK _,ae,ae⟩ ⟨H,jb⟩ W _ ⟨?_,ae,?_,?_,?_,?_,?_,eI,⟨ae,ae,ae,bF _,λ_ _ _=>rfl⟩,cC.refl _,λ_ _ _ _=>rfl,λ_ h=>absurd h (A3 _)⟩) (λe a W' hq=>hq (λ_ h=>h))
 ·simp[hN];omega
 ·intro t v ht;simp only[St.kn,cq]at ht;obtain⟨x,hx,he⟩:=ht;cases he;obtain⟨_,u,hu,hr,_⟩:=pj args vs 0 bU t v hx;have jh:vs[t]? =some u:=C1;have bh:t<vs.length:=(v7.1 jh).1;have:(vs.toArray++Array.replicate (fn.ntmps-vs.toArray.size) undef).getD t undef=u:=by rw[v5,AT FP];simp[jh]
  rw[this];exact hr
 ·intro id b e;simp[St.kn,ao]at e
 ·intro id b6 b b' k e;simp[St.kn,ao]at e
 ·intro k x e id al;cases k with
  |m j=>simp[St.kn,ao]at e
  |s t=>
   simp only[St.kn,cq]at e
   obtain⟨y,hy,he⟩:=e
   subst he
   obtain⟨_,u,_,_,h6⟩:=pj args vs 0 bU t y hy
   have:=h6 id al
   rw[mm]at this
   cases this
 ·intro id x e;simp[St.kn,ao]at e
end
def sR{l:List (Nat×AV)}{t:Nat}{v:AV}(h:ao t l=some v):∃x,ao t l=some x∧au x v:=⟨v,h,au.refl v⟩
def bR{l:List (Nat×aJ)}{t:Nat}{v:aJ}(h:ao t l=some v):∃x,ao t l=some x∧dd x v:=⟨v,h,dd.refl v⟩
def sE{l:List (Nat×AV)}{t:Nat}{w v:AV}(h:ao t l=some w)(e:w=v):∃x,ao t l=some x∧au x v:=⟨w,h,au.of_eq e⟩
def bE{l:List (Nat×aJ)}{t:Nat}{w v:aJ}(h:ao t l=some w)(e:w=v):∃x,ao t l=some x∧dd x v:=⟨w,h,dd.of_eq e⟩
def W9{sl:List (Nat×AV)}:∀{l:List (Nat×AV)},l.map (λe=>ao e.1 sl)=l.map (λe=>some e.2)→xS sl l
 |[],_=>trivial
 | (t,v)::l,h=>⟨⟨v,(O0 h).1,au.refl v⟩,W9 (O0 h).2⟩
def Xa{me:List (Nat×aJ)}:∀{l:List (Nat×aJ)},l.map (λe=>ao e.1 me)=l.map (λe=>some e.2)→iM me l
 |[],_=>trivial
 | (t,v)::l,h=>⟨⟨v,(O0 h).1,dd.refl v⟩,Xa (O0 h).2⟩
def ck{st st':St}(h1:st'.sl.map (λe=>ao e.1 st.sl)=st'.sl.map (λe=>some e.2):=by rfl)(h2:st'.mem.map (λe=>ao e.1 st.mem)=st'.mem.map (λe=>some e.2):=by rfl)(hn:(sK (1000000*st'.nx) st'.sl&&nw (1000000*st'.nx) st'.mem&&(Nat.ble 1 st'.nx||Nat.ble st.nx 0))=true:=by rfl):Wk st st':=wk (W9 h1) (Xa h2) hn
section
variable{P:Program}{tt:TT}
def Xb{α:Type}(z:List α)(n i:Nat)(hi:i<n):(((List.replicate n z).flatten).drop (i*z.length)).take z.length=z:=by
 induction n generalizing i with
 |zero=>omega
 |succ n ih=>
  rw[v9,List.flatten_cons]
  cases i with
  |zero=>simp
  |succ i=>
   rw[show(i+1)*z.length=z.length+i*z.length by rw[fP];omega,←xF,List.drop_left]
   exact ih i af
def ahj{α:Type}(z:List α)(n:Nat):(List.replicate n z).flatten.length=n*z.length:=be
def PX(zs:List Value)(n:Nat)(hz:zs≠[]):(Array.range (n*zs.length)).map (λi=>zs.toArray[i%zs.toArray.size]!)=((List.replicate n zs).flatten).toArray:=by
 apply Array.ext
 ·simp
 ·intro i h1 h2;simp at h1;have hl:0<zs.length:=cX.2 hz;have hm:i%zs.length<zs.length:=iq _ hl;simp only[Array.getElem_map,Array.getElem_range,List.size_toArray,List.getElem_toArray];rw[getElem!_pos _ _ (by simpa using hm),List.getElem_toArray];have hq:i/zs.length<n:=OJ (by rw[g9];exact h1);have hc:=Xb zs n (i/zs.length) hq;have hi:i=i/zs.length*zs.length+i%zs.length:=by rw[g9];exact(xD i zs.length).symm
  have h3:(((List.replicate n zs).flatten.drop (i/zs.length*zs.length)).take zs.length)[i%zs.length]? =zs[i%zs.length]? :=by rw[hc]
  rw[C3 hm,tv,←hi]at h3;rw[ct gR,ct hm]at h3;simp only[aO]at h3;exact h3.symm
def Xc{ops:Array Oper}{i:Nat}{o:Oper}{d:Nat}(ho:ops[i]? =some o)(hg:o.guard=none)(hd:o.dst=some d){n:Nat}(aV:d<n){st:St}{E:TypeId}{T:ET}{xs:List T.den}(new:Nat)(hlen:xs.length*T.n≤140737488355328)
  (h:∀(F:c8)(known:Nat→Prop)(σ:Kn)(g:Gh)(W:World)(a:Act),bJ F known σ g W a→(∀kx∈o9 st o.op,σ kx.1=some kx.2)→
   ∃(vs:List Value)(cap:Nat)(W1:World),(execOp a.eval o).run P W= .ok (.value (.slice (some ⟨W.heap.size,0,none⟩) xs.length cap)) {W1 with heap:=W.heap.push (.cells vs.toArray E (0,0))}∧W1.os=W.os∧W1.tape=W.tape∧W1.output=W.output∧vs.length=cap*T.n∧xs.length≤cap∧
    ∀i(h:i<xs.length),dh g.H T xs[i] ((vs.drop (i*T.n)).take T.n)):
  kY P n ops i st ((st.pm new (.vec E T xs)).put d (.c (.X new))) new (cF o.op.operands.toList,[.s d,.m new]):=by
 refine⟨o9 st o.op,[(.s d,some (.v (.c (.X new)))),(.m new,some (.b (.vec E T xs)))],?_,DS st _,Bn st d new _ _,fR st _,λk hk=>by simpa[fe]using hk⟩
 intro F fW Q known σ g W a K dT aH bt hK
 obtain⟨vs,cap,W1,bZ,e1,e2,e3,j9,hle,bU⟩:=h F known σ g W a aH bt
 unfold wpOp
 simp only[ho,Region.wanted,hg,cM]
 refine .inl ?_
 unfold Oper.wp
 rw[bZ]
 simp only[Oper.upon,hd]
 have cR:d<a.tmps.size:=qY
 let g':Gh:=⟨g.H,λid=>if id=new then .slice (some ⟨W.heap.size,0,none⟩) xs.length cap else g.γ id⟩
 have oB:iH known g g':=⟨cC.refl _,λid al=>by
  have:id≠new:=λe=>dT (e▸al)
  simp[g',this]⟩
 have xN:∀o,g.H W.heap.size o=none:=by
  intro o;cases hv:g.H W.heap.size o with
  |none=>rfl
  |some v=>
   have:=World.block_lt_of_cell? W _ (aH.sub _ _ _ hv)
   simp at this
 have eI:Sub g.H {W1 with heap:=W.heap.push (.cells vs.toArray E (0,0))}:=by have:=GF aH.sub (.cells vs.toArray E (0,0));exact this
 refine hK g' _ _ (aH.step (chg:=λ_=>False) (g':=g') ⟨oB,λ_ _ _=>rfl,eI,by simp,λk hk _=>GD W _ k hk,e1,e2,e3⟩ _ new dT sc aH.defers ?_ (λ_ h=>h.elim) ?_ ?_ ?_ ?_)
 ·intro t ht;have aN:d≠t:=ts;simp[Act.put,nN aN]
 ·intro t u ht;simp only[a9]at ht;split at ht
  ·rename_i e;simp only[Key.s.injEq]at e;simp only[aO,Info.v.injEq]at ht;subst e;subst ht;simp[Act.put,cR,bP,dk,g']
  ·split at ht
   ·simp at ht
   ·simp at ht
 ·intro id b ht;simp only[a9,reduceCtorEq,cP]at ht;split at ht
  ·rename_i e;simp only[Key.m.injEq]at e;subst e;simp only[aO,Info.b.injEq]at ht;subst ht;refine⟨.inr ⟨W.heap.size,cap,vs,by simp[g'],by simp,j9,hle,hlen,bU,.inl aH.below.size,xN⟩,.inr ⟨ae,λk hk=> .inl ?_⟩⟩;simp only[g',cM,cN,aO]at hk;omega
  ·simp at ht
 ·intro k y ht;simp only[a9]at ht;split at ht
  ·simp only[aO]at ht;subst ht;intro id al;simp[Info.aD,AV.aD,C.aD]at al;exact .inr al
  ·split at ht
   ·simp only[aO]at ht;subst ht;intro id al;simp[Info.aD,aJ.aD]at al
   ·simp at ht
 ·intro id y ht;simp only[a9,reduceCtorEq,cP]at ht;split at ht
  ·rename_i e;simp only[Key.m.injEq]at e;exact .inr e.symm
  ·simp at ht
def Xd{ops:Array Oper}{i:Nat}{o:Oper}{d:Nat}(ho:ops[i]? =some o)(hg:o.guard=none)(hd:o.dst=some d){n:Nat}(aV:d<n){st:St}{E:TypeId}{T:ET}{xs:List T.den}(new:Nat)(hlen:xs.length*T.n≤140737488355328)
  (h:∀(F:c8)(known:Nat→Prop)(σ:Kn)(g:Gh)(W:World)(a:Act),bJ F known σ g W a→(∀kx∈o9 st o.op,σ kx.1=some kx.2)→
   ∃(vs:List Value)(cap:Nat)(W1:World),(execOp a.eval o).run P W= .ok (.value (.slice (some ⟨W.heap.size,0,none⟩) xs.length cap)) {W1 with heap:=W.heap.push (.cells vs.toArray E (0,0))}∧W1.os=W.os∧W1.tape=W.tape∧W1.output=W.output∧vs.length=cap*T.n∧xs.length≤cap∧
    ∀i(h:i<xs.length),dh g.H T xs[i] ((vs.drop (i*T.n)).take T.n)):
  kY P n ops i st (st.put d (.c (.S T xs))) new (cF o.op.operands.toList,[.s d]):=by
 refine⟨o9 st o.op,[(.s d,some (.v (.c (.S T xs))))],?_,DS st _,nV st d _,fR st _,λk hk=>by simpa[fe]using hk⟩
 intro F fW Q known σ g W a K dT aH bt hK
 obtain⟨vs,cap,W1,bZ,e1,e2,e3,j9,hle,bU⟩:=h F known σ g W a aH bt
 unfold wpOp
 simp only[ho,Region.wanted,hg,cM]
 refine .inl ?_
 unfold Oper.wp
 rw[bZ]
 simp only[Oper.upon,hd]
 have cR:d<a.tmps.size:=qY
 let g':Gh:=⟨λb o=>if b=W.heap.size then vs[o]? else g.H b o,g.γ⟩
 have xN:∀o,g.H W.heap.size o=none:=by
  intro o;cases hv:g.H W.heap.size o with
  |none=>rfl
  |some v=>
   have:=World.block_lt_of_cell? W _ (aH.sub _ _ _ hv)
   simp at this
 have tO:cC g.H g'.H:=by
  intro b o v hv;by_cases e:b=W.heap.size
  ·subst e;rw[xN]at hv;cases hv
  ·simp[g',e,hv]
 have eI:Sub g'.H {W1 with heap:=W.heap.push (.cells vs.toArray E (0,0))}:=by
  intro b o v hv;by_cases e:b=W.heap.size
  ·subst e;simp only[g',cM]at hv;simp[World.cell?,hv]
  ·simp only[g',e,cP]at hv;exact GF aH.sub (.cells vs.toArray E (0,0)) b o v hv
 refine hK g' _ _ (aH.step (chg:=λ_=>False) (g':=g') ⟨⟨tO,λ_ _=>rfl⟩,?_,eI,by simp,λk hk _=>GD W _ k hk,e1,e2,e3⟩ _ new dT sc aH.defers ?_ (λ_ h=>h.elim) ?_ ?_ ?_ ?_)
 ·intro b o hb;have:b≠W.heap.size:=af;simp[g',this]
 ·intro t ht;have aN:d≠t:=ts;simp[Act.put,nN aN]
 ·intro t u ht;simp only[a9]at ht;split at ht
  ·rename_i e;simp only[Key.s.injEq]at e;simp only[aO,Info.v.injEq]at ht;subst e;subst ht;have tP:(a.put (some d) (.slice (some ⟨W.heap.size,0,none⟩) xs.length cap)).tmps.getD d undef= .slice (some ⟨W.heap.size,0,none⟩) xs.length cap:=by simp[Act.put,cR]
   rw[tP];refine⟨_,cap,ae,hle,hlen,?_⟩;by_cases hx:xs=[]
   ·exact .inl hx
   ·refine .inr ⟨W.heap.size,0,ae,λk hk=>⟨(vs.drop (k*T.n)).take T.n,dh.length T _ _ (bU k hk),dh.mono tO T _ _ (bU k hk),λj hj=>?_⟩⟩;have dL:(k+1)*T.n≤cap*T.n:=dY _ af;rw[fP,iZ]at dL;simp only[fD,F']at hj;simp only[g',cM,eR,uJ,we];exact ct af
  ·simp at ht
 ·intro id b ht;simp[a9]at ht
 ·intro k y ht;simp only[a9]at ht;split at ht
  ·simp only[aO]at ht;subst ht;intro id al;simp[Info.aD,AV.aD,C.aD]at al
  ·simp at ht
 ·intro id y ht;simp[a9]at ht
def ahk(aT:cL P tt=true){ops:Array Oper}{i:Nat}{o:Oper}{d:Nat}(ho:ops[i]? =some o)(hg:o.guard=none)(hd:o.dst=some d){n:Nat}(aV:d<n){t:TypeId}{x:Operand}(b9:o.op= .makeSlice t x x)
  {st:St} {m:Nat} {k:IntKind} (hx:st.ev x=some (.c (.I k (m:Int)))) {E:Nat} {ti ei:TI} (fo:ao t tt=some ti) (hk:ti.kind= .sl E) (jJ:ao E tt=some ei) (T:ET) (kL:ei.size=T.n)
  (hz:∀g:Gh,bS g (av T T.kU) (ei.zero.map ZV.fV)) (hb:m*ei.bytes≤281474976710656) (dK:m*T.n≤140737488355328) (new:Nat):
  kY P n ops i st ((st.pm new (.vec E T (List.replicate m T.kU))).put d (.c (.X new))) new (cF o.op.operands.toList,[.s d,.m new]):=by
 refine Xc ho hg hd aV new (by simpa using dK) ?_
 intro F known σ g W a aH bt
 have hr:a.eval x= .int k (m:Int):=gy aH st x _ hx (λkx aS=>bt kx VC)
 have hu:=(gL aT fo).kind
 rw[hk]at hu
 obtain⟨inf,lI,sO,xV,z,xW,p8⟩:=(gL aT jJ).info
 have GO:(ei.zero.map ZV.fV).length=T.n:=dh.length T _ _ (zo T _ _ (hz g))
 have uU:z.cells=(ei.zero.map ZV.fV).toArray:=FO
 have PY:(ei.zero.map ZV.fV)≠[]:=by intro e;rw[e]at GO;have:=T.Dp;simp at GO;omega
 have qi:m*1≤m*T.n:=lE m T.Dp
 have PZ:(inf.bytes:Int)*(m:Int)≤281474976710656:=by
  rw[xV];have:(ei.bytes:Int)*(m:Int)=((m*ei.bytes:Nat):Int):=by rw[g9];simp
  rw[this];omega
 have bZ:=run_make (P:=P) W t E inf z hu lI xW k k m m af af PZ af
 refine⟨(List.replicate m (ei.zero.map ZV.fV)).flatten,m,W,?_,ae,ae,ae,?_,by simp,?_⟩
 ·rw[execOp,b9];have By:madeCells z.cells (m*inf.size)=((List.replicate m (ei.zero.map ZV.fV)).flatten).toArray:=by rw[sO,kL,uU,←GO,←PX _ m PY];rfl
  simp only[bw]at bZ;rw[By]at bZ;simp only[hr,Sem.run_bind,bZ,Result.andThen,jv];rfl
 ·rw[ahj,GO]
 ·intro j hj;simp only[jv]at hj;have:=Xb (ei.zero.map ZV.fV) m j hj;rw[GO]at this;rw[this,List.getElem_replicate];exact zo T _ _ (hz g)
end
section
variable{P:Program}{tt:TT}{n:Nat}{Q:fA}{st:St}
def xX(id:Nat)(T:ET)(xs:List T.den):C→C
 | .X j=>if j=id then .S T xs else .X j
 | .Y j m i off=>if j=id then .any else .Y j m i off
 |c=>c
def xY(id:Nat)(T:ET)(xs:List T.den):List C→List C
 |[]=>[]
 |c::r=>xX id T xs c::xY id T xs r
def GP(id:Nat)(T:ET)(xs:List T.den):List (Bool×List C)→List (Bool×List C)
 |[]=>[]
 | (b,cs)::r=>(b,xY id T xs cs)::GP id T xs r
def GQ(id:Nat)(T:ET)(xs:List T.den):AV→AV
 | .c x=> .c (xX id T xs x)
 | .a cs=> .a (xY id T xs cs)
 | .t ss=> .t (GP id T xs ss)
def wI(id:Nat)(T:ET)(xs:List T.den):List (Nat×AV)→List (Nat×AV)
 |[]=>[]
 | (t,v)::r=>(t,GQ id T xs v)::wI id T xs r
def GR(id:Nat)(T:ET)(xs:List T.den):aJ→aJ
 | .box E bz cs=> .box E bz (xY id T xs cs)
 |b=>b
def mX(id:Nat)(T:ET)(xs:List T.den):List (Nat×aJ)→List (Nat×aJ)
 |[]=>[]
 | (j,b)::r=>if j=id then mX id T xs r else(j,GR id T xs b)::mX id T xs r
def Xe(id:Nat)(T:ET)(xs:List T.den)(t:Nat):∀l,ao t (wI id T xs l)=(ao t l).map (GQ id T xs)
 |[]=>rfl
 | (k,v)::r=>by
  simp only[wI,ao];split
  ·rfl
  ·exact Xe id T xs t r
def P0(id:Nat)(T:ET)(xs:List T.den)(t:Nat):∀l,ao t (mX id T xs l)=if t=id then none else(ao t l).map (GR id T xs)
 |[]=>by simp[mX,ao]
 | (k,v)::r=>by
  simp only[mX,ao];split
  ·rename_i e;subst e;rw[P0 k T xs t r];split
   ·rfl
   ·rename_i h;rw[aq (λe=>h e.symm)]
  ·rename_i e;simp only[ao];split
   ·rename_i e2;subst e2;rw[aq e];rfl
   ·exact P0 id T xs t r
def Xf(id:Nat)(T:ET)(xs:List T.den)(c:C):∀j∈(xX id T xs c).aD,j∈c.aD:=by
 intro j hj;cases c with
 |X k=>simp only[xX]at hj;split at hj;simp[C.aD]at hj;exact hj
 |Y k m i off=>simp only[xX]at hj;split at hj;simp[C.aD]at hj;exact hj
 |_=>exact hj
def KK(id:Nat)(T:ET)(xs:List T.den):∀(cs:List C),∀j∈cA (xY id T xs cs),j∈cA cs
 |[],j,h=>h
 |c::cs,j,h=>by simp only[xY,cA,bX]at h⊢;exact h.imp (Xf id T xs c j) (KK id T xs cs j)
def Xg(id:Nat)(T:ET)(xs:List T.den):∀(cs:List (Bool×List C)),∀j∈fE (GP id T xs cs),j∈fE cs
 |[],j,h=>h
 | (b,c)::cs,j,h=>by simp only[GP,fE,bX]at h⊢;exact h.imp (KK id T xs c j) (Xg id T xs cs j)
def ahl(id:Nat)(T:ET)(xs:List T.den)(v:AV):∀j∈(GQ id T xs v).aD,j∈v.aD:=by
 cases v with
 |c x=>exact Xf id T xs x
 |a cs=>exact KK id T xs cs
 |t ss=>exact Xg id T xs ss
section
variable{id:Nat}{T:ET}{xs:List T.den}{known:Nat→Prop}{g g':Gh}
def P1(hl:iH known g g')(hX:nn (dh g'.H T) T.n g'.H xs (g.γ id)):∀{c:C}{v:Value},(∀j∈c.aD,known j)→dk g c v→dk g' (xX id T xs c) v:=by
 intro c v hk h;cases c with
 |X k=>
  simp only[xX]
  split
  ·rename_i e;subst e;simp only[dk]at h;subst h;exact hX
  ·exact dk.mono hl hk h
 |Y k m i off=>
  simp only[xX]
  split
  ·trivial
  ·exact dk.mono hl hk h
 |_=>exact dk.mono hl hk h
def KM(hl:iH known g g')(hX:nn (dh g'.H T) T.n g'.H xs (g.γ id)):∀{cs:List C}{vs:List Value},(∀j∈cA cs,known j)→bS g cs vs→bS g' (xY id T xs cs) vs
 |[],_,_,h=>h
 |_::_,_,hk,h=>by obtain⟨v,r,e,h1,h2⟩:=h;exact⟨v,r,e,P1 hl hX (λj hj=>hk j (by simp[cA,hj])) h1,KM hl hX (λj hj=>hk j (by simp[cA,hj])) h2⟩
def Xh(hl:iH known g g')(hX:nn (dh g'.H T) T.n g'.H xs (g.γ id)):∀{cs:List (Bool×List C)}{vs:List Value},(∀j∈fE cs,known j)→dt g cs vs→dt g' (GP id T xs cs) vs
 |[],_,_,h=>h
 | (b,c)::_,_,hk,h=>by
  obtain⟨v,r,e,h1,h2⟩:=h;refine⟨v,r,e,?_,Xh hl hX (λj hj=>hk j (by simp[fE,hj])) h2⟩;have du:∀j∈cA c,known j:=λj hj=>hk j (by simp[fE,hj])
  match b,c,h1 with
  |true,c,h1=>obtain⟨vs,e,h⟩:=h1;exact⟨vs,e,KM hl hX du h⟩
  |false,[c],h1=>exact P1 hl hX (λj hj=>du j (by simp[cA,hj])) h1
def ahm(hl:iH known g g')(hX:nn (dh g'.H T) T.n g'.H xs (g.γ id)){x:AV}{v:Value}(hk:∀j∈x.aD,known j)(h:bP g x v):bP g' (GQ id T xs x) v:=by
 cases x with
 |c y=>exact P1 hl hX hk h
 |a cs=>obtain⟨vs,e,h⟩:=h;exact⟨vs,e,KM hl hX hk h⟩
 |t ss=>obtain⟨vs,e,h⟩:=h;exact⟨vs,e,Xh hl hX hk h⟩
end
def oC(id:Nat){E:TypeId}{T:ET}{xs:List T.den}{sl:List (Nat×AV)}{mem:List (Nat×aJ)}{nx:Nat}{gd:List (Nat×Bool)}(hl:ao id mem=some (.vec E T xs)):Wk ⟨sl,mem,nx,gd⟩ ⟨wI id T xs sl,mX id T xs mem,nx,gd⟩:=by
 intro F gM g W a h;have al:St.kn ⟨sl,mem,nx,gd⟩ (.m id)=some (.b (.vec E T xs)):=by simp[St.kn,hl]
 have jK:=h.c9 id _ al;have main:∀g':Gh,iH (kb ⟨sl,mem,nx,gd⟩) g g'→nn (dh g'.H T) T.n g'.H xs (g.γ id)→Sub g'.H W→(∀b o,b<F.w0.heap.size→¬F.own b→g'.H b o=F.H0 b o)→(∀b o,cN (g.γ id)≠some b→g'.H b o=g.H b o)→g'.γ=g.γ→
   bJ F (kb ⟨wI id T xs sl,mX id T xs mem,nx,gd⟩) (St.kn ⟨wI id T xs sl,mX id T xs mem,nx,gd⟩) g' W a:=by
  intro g' hle hX eI lK hH hγ
  have hS:∀t v',St.kn ⟨wI id T xs sl,mX id T xs mem,nx,gd⟩ (.s t)=some (.v v')→∃v,St.kn ⟨sl,mem,nx,gd⟩ (.s t)=some (.v v)∧v'=GQ id T xs v:=by intro t v' e;simp only[St.kn,Xe,Option.map_map,cq]at e;obtain⟨v,hv,he⟩:=e;cases he;exact⟨v,by simp[St.kn,hv],ae⟩
  have hM:∀j b',St.kn ⟨wI id T xs sl,mX id T xs mem,nx,gd⟩ (.m j)=some (.b b')→∃b,St.kn ⟨sl,mem,nx,gd⟩ (.m j)=some (.b b)∧b'=GR id T xs b∧j≠id:=by
   intro j b' e;simp only[St.kn,P0]at e;split at e
   ·simp at e
   ·rename_i aN;simp only[Option.map_map,cq]at e;obtain⟨b,hb,he⟩:=e;cases he;exact⟨b,by simp[St.kn,hb],ae,aN⟩
  refine⟨h.size,h.defers,?_,?_,?_,?_,?_,eI,h.below,h.le.trans hle.H,lK,λid al=>⟨(h.iu id al).1,by rw[hγ];exact(h.iu id al).2⟩⟩
  ·intro t v' e;obtain⟨v,hv,rfl⟩:=hS t v' e;exact ahm hle hX (λj hj=>h.aD _ _ hv j hj) (h.gw t v hv)
  ·intro j b' e;obtain⟨b,hb,rfl,aN⟩:=hM j b' e;have hr:=h.c9 j b hb;have P2:∀k,cN (g.γ j)=some k→cN (g.γ id)≠some k:=λk hk du=>aN (h.inj j id b _ k hb al hk du)
   cases b with
   |box E' bz cs=>
    obtain⟨k,vs,rest,e1,e2,e3,e4,e5,e6⟩:=hr
    exact⟨k,vs,rest,by rw[hγ];exact e1,e2,KM hle hX (λi hi=>h.aD _ _ hb i hi) e3,e4,λo=>by rw[hH k o (P2 k e1)];exact e5 o,by rw[hγ];exact e6⟩
   |vec E' T' ys=>
    rcases hr with⟨e1,e2⟩|⟨k,cap,vs,e1,e2,e3,e4,KN,e5,e6,e7⟩
    ·exact .inl ⟨by rw[hγ];exact e1,e2⟩
    ·exact .inr ⟨k,cap,vs,by rw[hγ];exact e1,e2,e3,e4,KN,λi hi=>dh.mono hle.H _ _ _ (e5 i hi),e6,λo=>by rw[hH k o (P2 k (by rw[e1];rfl))];exact e7 o⟩
   |fQ f first caps=>
    obtain⟨us,ws,e1,e2,e3⟩:=hr
    exact⟨us,ws,by rw[hγ];exact e1,dt.mono hle (λi hi=>h.aD _ _ hb i (fM _ hi)) e2,dt.mono hle (λi hi=>h.aD _ _ hb i (jY _ hi)) e3⟩
   |fz E' cs=>
    obtain⟨k,vs,rest,e1,e2,e3,e4,e5⟩:=hr
    exact⟨k,vs,rest,by rw[hγ];exact e1,e2,bS.mono hle (λi hi=>h.aD _ _ hb i hi) e3,e4,λo=>by rw[hH k o (P2 k e1)];exact e5 o⟩
  ·intro i j b b' k e e' hk du;obtain⟨c,hc,_⟩:=hM i b e;obtain⟨c',pf,_⟩:=hM j b' e';rw[hγ]at hk du;exact h.inj i j c c' k hc pf hk du
  ·intro k x e j hj;cases k with
   |s t=>
    cases x with
    |v v'=>obtain⟨v,hv,rfl⟩:=hS t v' e;exact h.aD _ _ hv j (ahl id T xs v j hj)
    |b b'=>simp only[St.kn,cq]at e;obtain⟨_,_,he⟩:=e;cases he
   |m i=>
    cases x with
    |v v'=>simp only[St.kn,cq]at e;obtain⟨_,_,he⟩:=e;cases he
    |b b'=>
     obtain⟨b,hb,rfl,_⟩:=hM i b' e
     refine h.aD _ _ hb j ?_
     cases b with
     |box E' bz cs=>exact KK id T xs cs j hj
     |vec E' T' ys=>exact hj
     |fQ f first caps=>exact hj
     |fz E' cs=>exact hj
  ·intro i x e;cases x with
   |v v'=>simp only[St.kn,cq]at e;obtain⟨_,_,he⟩:=e;cases he
   |b b'=>obtain⟨b,hb,_⟩:=hM i b' e;exact h.fy _ _ hb
 rcases jK with⟨hγ,hx⟩|⟨b,cap,vs,hγ,hh,j9,hle,hlen,hr,hN,hz⟩
 ·refine⟨g,main g ⟨cC.refl _,λ_ _=>rfl⟩ ?_ h.sub h.fresh (λ_ _ _=>rfl) ae⟩;subst hx;exact⟨none,0,hγ,by simp,by simp,.inl ae⟩
 ·let g':Gh:=⟨λb' o=>if b'=b then(if o<xs.length*T.n then vs[o]? else none)else g.H b' o,g.γ⟩;have tO:cC g.H g'.H:=by
   intro b' o v hv;by_cases e:b'=b
   ·subst e;rw[hz]at hv;cases hv
   ·simp[g',e,hv]
  refine⟨g',main g' ⟨tO,λ_ _=>rfl⟩ ?_ ?_ ?_ ?_ ae⟩
  ·refine⟨some ⟨b,0,none⟩,cap,hγ,hle,hlen,?_⟩;by_cases hx:xs=[]
   ·exact .inl hx
   ·refine .inr ⟨b,0,ae,λk hk=>⟨(vs.drop (k*T.n)).take T.n,dh.length T _ _ (hr k hk),dh.mono tO T _ _ (hr k hk),λj hj=>?_⟩⟩;have dL:(k+1)*T.n≤cap*T.n:=dY _ af;have DZ:(k+1)*T.n≤xs.length*T.n:=dY _ af;rw[fP,iZ]at dL DZ;simp only[fD,F']at hj;have bh:k*T.n+j<xs.length*T.n:=af;simp only[g',cM,eR,uJ,we,bh];exact ct af
  ·intro b' o v hv;by_cases e:b'=b
   ·subst e;simp only[g',cM]at hv;split at hv
    ·simp[World.cell?,hh,hv]
    ·cases hv
   ·simp only[g',e,cP]at hv;exact h.sub b' o v hv
  ·intro b' o dm ef;have:b'≠b:=by
    intro e;subst e;rcases hN with h1|h1
    ·omega
    ·exact ef h1
   simp only[g',this,cP];exact h.fresh b' o dm ef
  ·intro b' o dm;have:b'≠b:=λe=>dm (by rw[hγ,e];rfl)
   simp[g',this]
def fS(id:Nat){E:TypeId}{T:ET}{xs:List T.den}{c:Code}{sl:List (Nat×AV)}{mem:List (Nat×aJ)}{nx:Nat}{gd:List (Nat×Bool)}(hl:ao id mem=some (.vec E T xs)){sl':List (Nat×AV)}{mem':List (Nat×aJ)}(hs:wI id T xs sl=sl')(hm:mX id T xs mem=mem')
  (h:TR P n c ⟨sl',mem',nx,gd⟩ Q):TR P n c ⟨sl,mem,nx,gd⟩ Q:=by
 subst hs hm
 exact dv (oC id hl) h
def zL(t:Nat){T:ET}{xs:List T.den}{c:Code}{sl:List (Nat×AV)}{mem:List (Nat×aJ)}{nx:Nat}{gd:List (Nat×Bool)}(hl:ao t sl=some (.c (.S T xs)))(h:xs.length*T.n≤140737488355328→TR P n c ⟨sl,mem,nx,gd⟩ Q):TR P n c ⟨sl,mem,nx,gd⟩ Q:=by intro F hF g W a hh;have h1:dk g (.S T xs) (a.tmps.getD t undef):=hh.gw t (.c (.S T xs)) (by simp[St.kn,hl]);obtain⟨_,_,_,_,h2,_⟩:=h1;exact h h2 F hF g W a hh
def ahn{ops:Array Oper}{draw:Bool}{nx i:Nat}{d t:Nat}{x:Operand}{ty:TypeId}{pos:String}{cJ:Array Edge}{os:List Oper}{sl:List (Nat×AV)}{mem:List (Nat×aJ)}{n0:Nat}{gd:List (Nat×Bool)}{ks:List Ks}{Q:St→Prop}(aT:cL P tt=true)
  (T:ET) (m:Nat) {k:IntKind} {v:Int} (hx:St.ev ⟨sl,mem,n0,gd⟩ x=some (.c (.I k v))) (hv:v=(m:Int)) {E:Nat} {ti ei:TI} (fo:ao t tt=some ti) (hk:ti.kind= .sl E) (jJ:ao E tt=some ei) (kL:ei.size=T.n)
  (hz:∀g:Gh,bS g (av T T.kU) (ei.zero.map ZV.fV)) (hb:m*ei.bytes≤281474976710656) (dK:m*T.n≤140737488355328)
  (h:RG P n ops draw nx (i+1) os ⟨(d,.c (.X (1000000*nx+1000*i)))::sl,(1000000*nx+1000*i,.vec E T (List.replicate m T.kU))::mem,n0,gd⟩ (fi draw ks (cF [x,x],[.s d,.m (1000000*nx+1000*i)])) Q) (aV:Nat.blt d n=true:=by rfl):
  RG P n ops draw nx i (⟨some d,.makeSlice t x x,ty,pos,cJ,none⟩::os) ⟨sl,mem,n0,gd⟩ ks Q:=by
 subst hv
 exact kM (λho=>ahk aT ho ae ae (cT aV) ae hx fo hk jJ T kL hz hb dK _) (jA h)
def Bz{ops:Array Oper}{draw:Bool}{nx i:Nat}{t:Nat}{x y:Operand}{ty:TypeId}{pos:String}{cJ:Array Edge}{os:List Oper}{sl:List (Nat×AV)}{mem:List (Nat×aJ)}{n0:Nat}{gd:List (Nat×Bool)}{ks:List Ks}{Q:St→Prop}(aT:cL P tt=true)
  {id m k:Nat} {E:TypeId} {T:ET} {xs:List T.den} {vy:AV} (hx:St.ev ⟨sl,mem,n0,gd⟩ x=some (.c (.Y id m k 0))) (hl:ao id mem=some (.vec E T xs)) (hy:St.ev ⟨sl,mem,n0,gd⟩ y=some vy) (hm:T.n=m) {ag:Bool} (j8:p7 tt t=some (m,ag)) (e:T.den) (eL:jn vy=some (av T e)) (hk:k<xs.length)
  (h:RG P n ops draw nx (i+1) os ⟨sl,(id,.vec E T (xs.set k e))::mem,n0,gd⟩ (fi draw ks (cF [x,y]++fp [id],[.m id])) Q):
  RG P n ops draw nx i (⟨none,.store t x y,ty,pos,cJ,none⟩::os) ⟨sl,mem,n0,gd⟩ ks Q:=by
 refine kM (λho=>⟨_,_,WR aT ho ae ae ae hx hy hl hm j8 eL hk _,?_,Kz ⟨sl,mem,n0,gd⟩ id _,?_,λk hk=>by simpa[fe]using hk⟩) (jA h)
 ·intro kx aS;rcases bX.1 aS with h|h
  ·rcases bX.1 h with h|h
   ·exact fY _ x kx h
   ·exact fY _ y kx h
  ·exact rB _ [id] kx h
 ·intro k hk;simp only[dO,dZ,bX]at hk;rcases hk with(h|h)|h
  ·exact fM _ (fR ⟨sl,mem,n0,gd⟩ [x,y] k yX)
  ·exact fM _ (fR ⟨sl,mem,n0,gd⟩ [x,y] k yY)
  ·exact jY _ (qf ⟨sl,mem,n0,gd⟩ [id] k h)
end
section
variable{P:Program}{tt:TT}{n:Nat}
def KO:∀(T:ET)(x:T.den),(av T x).length=T.n
 | .int _,_=>rfl
 | .bool,_=>rfl
 | .z,_=>rfl
 | .q,_=>rfl
 | .sl _,_=>rfl
 | .pr A B,x=>by simp[av,KO A,KO B]
def Xi{g:Gh}(T:ET):∀(xs:List T.den)(vs:List Value),bS g (xs.flatMap (av T)) vs→∀i(h:i<xs.length),dh g.H T xs[i] ((vs.drop (i*T.n)).take T.n)
 |[],_,_,i,h=>by simp at h
 |x::xs,vs,hr,i,h=>by
  rw[gJ]at hr;obtain⟨a,b,rfl,h1,h2⟩:=Gj hr;have hl:a.length=T.n:=by rw[h1.length,KO]
  cases i with
  |zero=>
   simp only[A5,wi,xx]
   rw[AS af,lD af]
   exact zo T x a h1
  |succ i=>
   simp only[FY]
   rw[show(i+1)*T.n=a.length+i*T.n by rw[fP,iZ];omega,←xF,List.drop_left]
   exact Xi T xs b h2 i cd
def xZ(sz:Nat):Nat→Nat→List (Nat×Nat)
 |_,0=>[]
 |k,m+1=>(k*sz,sz)::xZ sz (k+1) m
def P3(sz:Nat):∀(m k i:Nat)(x:Nat×Nat),(xZ sz k m)[i]? =some x→x=((k+i)*sz,sz)
 |0,_,_,_,h=>by simp[xZ]at h
 |m+1,k,0,x,h=>by simp[xZ]at h;simp[←h]
 |m+1,k,i+1,x,h=>by simp only[xZ,C4]at h;have:=P3 sz m (k+1) i x h;rw[this,show k+1+i=k+(i+1)by omega]
def x4(l:List C):Nat→List C
 |0=>[]
 |m+1=>l++x4 l m
def P4{g:Gh}{l:List C}{vs:List Value}(h:bS g l vs):∀m,bS g (x4 l m) ((List.replicate m vs).flatten)
 |0=>rfl
 |m+1=>by rw[v9,List.flatten_cons];exact bS.append h (P4 h m)
def P6{l:List C}(h:cA l=[]):∀m,cA (x4 l m)=[]
 |0=>rfl
 |m+1=>by
  have:=P6 h m;apply List.eq_nil_iff_forall_not_mem.2;intro id al;rcases Kr _ _ id al with h1|h1
  ·rw[h]at h1;cases h1
  ·rw[this]at h1;cases h1
def BA(tt:TT)(st:St)(t len:Nat)(parts:List (Nat×Operand)):Option (Nat×TI×List C):=match ao t tt with
 |some ti=>(match ti.kind with
  | .sl E=>(match ao E tt with
   |some ei=>(match Bl (xZ ei.size 0 len) st (x4 (ei.zero.map ZV.sD) len) parts with
    |some cs=>some (E,ei,cs)
    |none=>none)
   |none=>none)
  |_=>none)
 |none=>none
def P7(aT:cL P tt=true){F:c8}{known:Nat→Prop}{σ:Kn}{g:Gh}{W:World}{a:Act}(aH:bJ F known σ g W a){st:St}{o:Oper}{t len:Nat}{parts:Array (Nat×Operand)}(b9:o.op= .buildSlice t len parts){E:Nat}{ei:TI}{T:ET}{xs:List T.den}(hT:ei.size=T.n)(qj:xs.length=len)(sQ:len*T.n≤16777216)
  (hv:BA tt st t len parts.toList=some (E,ei,xs.flatMap (av T))) (bt:∀kx∈o9 st o.op,σ kx.1=some kx.2):
  ∃(vs:List Value)(cap:Nat)(W1:World),(execOp a.eval o).run P W= .ok (.value (.slice (some ⟨W.heap.size,0,none⟩) xs.length cap)) {W1 with heap:=W.heap.push (.cells vs.toArray E (0,0))}∧W1.os=W.os∧W1.tape=W.tape∧W1.output=W.output∧vs.length=cap*T.n∧xs.length≤cap∧
    ∀i(h:i<xs.length),dh g.H T xs[i] ((vs.drop (i*T.n)).take T.n):=by
 unfold BA at hv
 split at hv
 ·rename_i ti fo;split at hv
  ·rename_i E' hk;split at hv
   ·rename_i pn jJ;split at hv
    ·rename_i cs eL;simp only[aO,cD]at hv;obtain⟨rfl,rfl,rfl⟩:=hv;have hu:=(gL aT fo).kind;rw[hk]at hu;obtain⟨inf,lI,sO,_,z,hz,p8⟩:=(gL aT jJ).info;have uU:z.cells=(pn.zero.map ZV.fV).toArray:=FO;obtain⟨us,tJ,nq,hu3,Ky⟩:=Ku aH st (xZ pn.size 0 len) (λi=>some (i*pn.size,pn.size)) (λi x h=>by rw[P3 _ _ _ _ _ h];simp) parts.toList _ _ _ eL (P4 (DN g pn.zero) len) (λp hp kx aS=>bt kx (by rw[b9];refine jE.2 ⟨p.2,?_,aS⟩;simp only[Op.operands,nQ];exact⟨p,hp,ae⟩)) (by rw[P6 (Kw _)];simp);have iN:=nq.length;have nW:∀ys:List T.den,(ys.flatMap (av T)).length=ys.length*T.n:=by
      intro ys;induction ys with
      |nil=>simp
      |cons y ys ih=>simp[KO,ih,fP,J4]
     rw[nW]at iN;refine⟨us,xs.length,W,?_,ae,ae,ae,iN,bF _,Xi T xs us nq⟩;have lG:execOp a.eval o=(do pure (.value (←Instr.buildSlice t len (parts.map λ(i,x)=>(i,a.eval x))))):=yW;have jI:(parts.map λ(i,x)=>(i,a.eval x)).toList=parts.toList.map λp=>(p.1,a.eval p.2):=be
     have k6:(pn.zero.map ZV.fV).length=pn.size:=by simpa using(gL aT jJ).Pl
     have oD:0<pn.size:=by rw[hT];exact T.Dp
     have zD:(zeroValue E').run P W= .ok z W:=by simp[zeroValue,typeInfo,lI,hz]
     have By:((Array.range (len*pn.size)).map (λi=>(pn.zero.map ZV.fV).toArray[i%(pn.zero.map ZV.fV).toArray.size]!))=((List.replicate len (pn.zero.map ZV.fV)).flatten).toArray:=by have:=PX (pn.zero.map ZV.fV) len (by intro e;rw[e]at k6;simp at k6;omega);rw[k6]at this;exact this
     have hb:(Instr.buildSlice t len (parts.map λ(i,x)=>(i,a.eval x))).run P W= .ok (.slice (some ⟨W.heap.size,0,none⟩) len len) {W with heap:=W.heap.push (.cells us.toArray E' (0,0))}:=by
      unfold Instr.buildSlice;rw[Sem.run_bind,run_underlying hu];simp only[Result.andThen];rw[Sem.run_bind,run_sizeOf lI];simp only[Result.andThen,sO];rw[aq (by rw[hT];omega)];by_cases Xj:len*pn.size=0
      ·have aho:len=0:=by
        rcases Nat.mul_eq_zero.1 Xj with h|h
        ·exact h
        ·omega
       subst aho;have ja:us=[]:=ik (by rw[iN,qj];simp);subst ja;have Xk:=tJ;simp only[wa,List.flatten_nil]at Xk;have uY:∀f:Nat→Value,(Array.range 0).map f= #[]:=λf=>by simp
       simp only[A5,cM,pure_bind,uY,jI,Xk];rfl
      ·rw[aq Xj];simp only[pure_bind,Sem.run_bind,zD,Result.andThen,uU,By,jI,tJ];rfl
     rw[lG,Sem.run_bind,hb,qj];rfl
    ·simp at hv
   ·simp at hv
  ·simp at hv
 ·simp at hv
def ahp{ops:Array Oper}{draw:Bool}{nx i:Nat}{d t len:Nat}{parts:Array (Nat×Operand)}{ty:TypeId}{pos:String}{cJ:Array Edge}{os:List Oper}{sl:List (Nat×AV)}{mem:List (Nat×aJ)}{n0:Nat}{gd:List (Nat×Bool)}{ks:List Ks}{Q:St→Prop}(aT:cL P tt=true)
  (T:ET) (xs:List T.den) {E:Nat} {ei:TI} (hv:BA tt ⟨sl,mem,n0,gd⟩ t len parts.toList=some (E,ei,xs.flatMap (av T))) (hT:ei.size=T.n) (qj:xs.length=len) (sQ:Nat.ble (len*T.n) 16777216=true)
  (h:RG P n ops draw nx (i+1) os ⟨(d,.c (.S T xs))::sl,mem,n0,gd⟩ (fi draw ks (cF (Op.buildSlice t len parts).operands.toList,[.s d])) Q) (aV:Nat.blt d n=true:=by rfl):
  RG P n ops draw nx i (⟨some d,.buildSlice t len parts,ty,pos,cJ,none⟩::os) ⟨sl,mem,n0,gd⟩ ks Q:=
 kM (λho=>Xd ho ae ae (cT aV) _ VD (λ_ _ _ _ _ _ aH bt=>P7 aT aH ae hT qj (cT sQ) hv bt)) (jA h)
def ahq{ops:Array Oper}{draw:Bool}{nx i:Nat}{d t len:Nat}{parts:Array (Nat×Operand)}{ty:TypeId}{pos:String}{cJ:Array Edge}{os:List Oper}{sl:List (Nat×AV)}{mem:List (Nat×aJ)}{n0:Nat}{gd:List (Nat×Bool)}{ks:List Ks}{Q:St→Prop}(aT:cL P tt=true)
  (T:ET) (xs:List T.den) {E:Nat} {ei:TI} (hv:BA tt ⟨sl,mem,n0,gd⟩ t len parts.toList=some (E,ei,xs.flatMap (av T))) (hT:ei.size=T.n) (qj:xs.length=len) (sQ:Nat.ble (len*T.n) 16777216=true)
  (h:RG P n ops draw nx (i+1) os ⟨(d,.c (.X (1000000*nx+1000*i)))::sl,(1000000*nx+1000*i,.vec E T xs)::mem,n0,gd⟩ (fi draw ks (cF (Op.buildSlice t len parts).operands.toList,[.s d,.m (1000000*nx+1000*i)])) Q) (aV:Nat.blt d n=true:=by rfl):
  RG P n ops draw nx i (⟨some d,.buildSlice t len parts,ty,pos,cJ,none⟩::os) ⟨sl,mem,n0,gd⟩ ks Q:=
 kM (λho=>Xc ho ae ae (cT aV) _ VD (λ_ _ _ _ _ _ aH bt=>P7 aT aH ae hT qj (cT sQ) hv bt)) (jA h)
end
end Go.El
