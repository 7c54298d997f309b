/- The engine, part 11c: literals: structs and slices. Own work; no condition. -/
import Derived.KernelRfl
import Derived.Deep.DeepAppendWide
import Derived.Deep.AppendSrc
import Derived.Test.YtceihkmakfdcnaaGreatB1
set_option linter.all false
set_option maxHeartbeats 16000000
set_option maxRecDepth 100000
open Array renaming range->XP
open Bool renaming true->ae,false->ah
open Go renaming Program->bI,Operand->eQ,Value->aR,World->cx,Oper->aX,ResultVar->yO,TypeId->dH
open Go.Act renaming put->gT
open Go.Builtin renaming firstCells->yW,append_->xi
open Go.El renaming ij->U
open Go.Exit renaming inBlock->DM
open Go.Instr renaming build->GZ,buildSlice->G8
open Go.Oper renaming wp->oo,upon->ny
open Go.Region renaming wanted->gx,binds->tv
open Go.Result renaming andThen->dx
open Go.Sem renaming run_bind->db
open Go.World renaming block_lt_of_cell?->AZ
open List renaming length->Z,getD->I,take->M,drop->ay,range->cw,replicate->bl,getElem_toArray->aiQ
open Nat renaming testBit->mY,ble->dU,blt->dt
open Option renaming some->ad
open _root_ renaming Nat->V,List->E,Option->au
namespace Go.El
open Go Go.RowKit
section
variable{P:bI}{tt:TT}{n:V}
def A1(a:E (V×V))(b:St):E C->E (V×eQ)->au (E C)
 |cs,[]=>ad cs
 |cs,(i,x)::d=>(match a[i]?,b.ev x with
  |some (off,sz),ad v=>(match kI v with
   |some us=>if Z us=sz/\off+sz<=Z cs/\us.all kd=ae then A1 a b (cF cs us off) d else none
   |none=>none)
  |_,_=>none)
def aiD us:∀(vs:E aR)(a k:V),a+k+Z us<=Z vs->(us.zipIdx k).foldl (λ(b:Array aR)(p:aR×V)=>b.setIfInBounds (a+p.2) p.1) vs.toArray=(cF vs us<|a+k).toArray:=by
 induction us with
 |nil=>intro vs a k _;simp[cF]
 |cons u us d=>
  intro vs a k h
  simp only[iI]at h
  simp only[List.zipIdx_cons,KR]
  have:vs.toArray.setIfInBounds (a+k) u=(vs.set (a+k) u).toArray:=ax
  rw[this,d (vs.set (a+k) u) a (k+1) bX]
  rw[(G:a+(k+1)=a+k+1),Xx _ _ _ _ G]
def GX{fW:dm}{d:V->Prop}{σ:Kn}{g:Gh}{W:cx}{a:Act}(h:aJ fW d σ g W a)(Q:St)(pl:E (V×V))(k:V->au (V×V))(T:∀i x,pl[i]? =ad x->k i=ad x):
  ∀(b:E (V×eQ))(s l:E C)(vs:E aR),A1 pl Q s b=ad l->aY g s vs->(∀p∈b,∀kx∈cH Q p.2,σ kx.1=ad kx.2)->(∀u∈cp s,d u)->
   ∃L:E aR,Instr.fill k vs.toArray (b.map λp=>(p.1,a.eval p.2))=ad L.toArray/\aY g l L/\Z L=Z vs/\∀u∈cp l,d u
 |[],s,l,vs,o,hr,_,hm=>by simp only[A1,aq]at o;subst o;exact⟨vs,J,hr,J,hm⟩
 | (i,x)::b,s,l,vs,o,hr,w,hm=>by
  simp only[A1]at o;split at o
  .rename_i f sz v hp hv;split at o
   .rename_i L m;split at o
    .rename_i B;let ⟨h1,h2,h3⟩:=B;have K:=dq h Q x v hv<|w (i,x) ax;have X:=q8 h Q x v hv<|w (i,x) ax;let ⟨ws,r,j⟩:=KN m K<|λc z=>mn.1 h3 c z;have O:=hr.length;have R:=j.length;have H:∀u∈cp (cF s L f),d u:=by
      intro u A;rcases Dx _ _ _ u A with h|h
      .exact hm u h
      .refine X u ?_;cases v with
       |c q=>simp only[kI,aq]at m;subst m;simpa[cp,AV.ak]using h
       |a q=>simp only[kI,aq]at m;subst m;exact h
       |t q=>simp[kI]at m
     let ⟨S,D,I,M,N⟩:=GX h Q pl k T b (cF s L f) l (cF vs ws f) o (hr.cF j f) (λp hp=>w p<|by simp[hp]) H;refine⟨S,?_,I,by rw[M,w8 _ _ _ G],N⟩;simp only[gJ,Instr.fill,T i _ hp,r];have z:¬((ws.toArray.size≠sz||decide (f+ws.toArray.size>vs.toArray.size))=ae):=by simp;omega
     rw[y (by simpa using z)];have:=aiD ws vs f 0 G;simp only[jv]at this;have e:ws.toArray.zipIdx.foldl (λ(s:Array aR)(p:aR×V)=>s.setIfInBounds (f+p.2) p.1) vs.toArray=(cF vs ws f).toArray:=by rw[<-this];simp
     rw[<-D];congr 1
    .simp at o
   .simp at o
  .simp at o
def KS(a:TI):E (V×V):=a.fields.map λf=>(f.1,f.2.1)
def QM(tt:TT)(f:St)(t:V)(b:E (V×eQ)):au AV:=match U t tt with
 |some d=>(match d.kind with
  | .st=>(match A1 (KS d) f (d.zero.map ZV.pR) b with|some cs=>ad (.a cs)|none=>none)
  |_=>none)
 |none=>none
def KT(a:E ZV):cp (a.map ZV.pR)=[]:=by
 induction a with
 |nil=>rfl
 |cons z a b=>simp only[gJ,cp,b];cases z<;>rfl
def aiE(o:True){d}{a:Array Field}(g:sA P d.fields a.toList=ae) W:∃gV:Array (V×V),(a.mapM λf=>(do pure (f.offset,<-sizeOf f.type):Go.Sem (V×V))).run P W= .ok gV W/\∀(i:V)(x:V×V),(KS d)[i]? =ad x->gV[i]? =ad x:=by
 have m:∀(l:E (V×V×Bool))(a:E Field),sA P l a=ae->(a.mapM λf=>(do pure (f.offset,<-sizeOf f.type):Go.Sem (V×V))).run P W= .ok (l.map λf=>(f.1,f.2.1)) W:=by
  intro l;induction l with
  |nil=>intro a h;cases a with
   |nil=>simp[pure]
   |cons f a=>simp[sA]at h
  |cons p l s=>
   intro a h
   let ⟨off,sz,B⟩:=p
   cases a with
   |nil=>simp[sA]at h
   |cons f a=>
    let ⟨C,b,t,⟨i,u,v⟩,_⟩:=KC h (k:=0) J
    simp only[mX,aq]at b
    subst b
    simp only[sA,cD]at h
    have:=s a h.2
    rw[GY]
    simp only[db,run_sizeOf u,dx,Sem.run_pure,this,v,t,gJ]
 refine⟨(KS d).toArray,?_,λi x h=>eh⟩;have w:a.mapM (λf=>(do pure (f.offset,<-sizeOf f.type):Go.Sem (V×V)))=Functor.map List.toArray (a.toList.mapM<|λf=>(do pure (f.offset,<-sizeOf f.type):Go.Sem (V×V))):=by simp[Array.mapM_eq_mapM_toList]
 rw[w];simp only[map_eq_pure_bind,db,m d.fields a.toList g,dx];rfl
def aiF(k:cq P tt=ae){l}{i}{o:aX}{d:V}(ho:l[i]? =ad o)(hg:o.guard=none)(hd:o.dst=ad d){n}(L:d<n){t}{b}(bO:o.op= .build t b)
 {Q}{v}(f:QM tt Q t b.toList=ad v) new:ig P n l i (ot Q o.op) [(.s d,ad<|.v v)] new:=by
 refine sB ho hg hd L _ v new ?_
 intro F K R g W a m T
 unfold QM at f
 split at f
 .rename_i H u;split at f
  .rename_i E;split at f
   .rename_i G X;simp only[aq]at f;subst f;have D:=(eK k u).kind;rw[E]at D;let ⟨fs,hu,c⟩:=D;let ⟨inf,vD,_,_,z,hz,xc⟩:=(eK k u).info;let ⟨gV,w,B⟩:=aiE (P:=P) A c W;let ⟨us,e,iZ,I,j⟩:=GX m Q (KS H) (gV[·]?) B b.toList (H.zero.map ZV.pR) G (H.zero.map ZV.eY) X (yK g _) (λp M N q=>T N<|by rw[bO];refine iV.2 ⟨p.2,?_,q⟩;simp only[Op.operands];simp only[kF];exact⟨p,M,J⟩) (by rw[KT];simp);refine⟨j,.agg us.toArray,?_,us,J,iZ⟩;have C:z.cells=(H.zero.map ZV.eY).toArray:=DD;have h:execOp a.eval o=(do pure (.value<|<-GZ t (b.map λ(i,x)=>(i,a.eval x)))):=vC;have r:(b.map λ(i,x)=>(i,a.eval x)).toList=b.toList.map λp=>(p.1,a.eval p.2):=ax
    have y:(zeroValue t).run P W= .ok z W:=QN;have O:(GZ t<|b.map λ(i,x)=>(i,a.eval x)).run P W= .ok (.agg us.toArray) W:=by unfold GZ;rw[db,y];simp only[dx];rw[db,run_underlying hu];simp only[dx];rw[db,w];simp only[dx,r,C,e];rfl
    rw[h,db,O];rfl
   .simp at f
  .simp at f
 .simp at f
end
section
variable{P:bI}{tt:TT}
def dX st x:∀a∈cH st x,st.kn a.1=ad a.2:=by
 intro a h;cases x with
 |tmp t=>
  simp only[cH]at h
  split at h
  .rename_i v b;simp only[iw]at h;subst h;simp[St.kn,b]
  .simp at h
 |_=>simp[cH]at h
def lp st ids:∀a∈fM st ids,st.kn a.1=ad a.2:=by
 intro a h;let ⟨id,_,h⟩:=iV.1 h;split at h
 .rename_i b d;simp only[iw]at h;subst h;simp[St.kn,d]
 .simp at h
def ri st(op:Op):∀a∈ot st op,st.kn a.1=ad a.2:=by intro a h;let ⟨x,_,h⟩:=iV.1 h;exact dX st x a h
def St.put(a:St)(d:V)(x:AV):St:={a with sl:=(d,x)::a.sl}
def St.pm(a:St)(d:V)(b:aD):St:={a with mem:=(d,b)::a.mem}
def sF{a:Type}(t:V):E (V×a)->E (V×a)
 |[]=>[]
 | (k,x)::b=>if k=t then sF t b else(k,x)::sF t b
def St.del(a:St)(d:V):St:={a with sl:=sF d a.sl}
def A2{d:Type}(t k:V):∀l:E (V×d),U k (sF t l)=if t=k then none else U k l
 |[]=>by simp[sF,U]
 | (f,x)::b=>by
  simp only[sF];split
  .rename_i a;subst a;rw[A2 f k b];split
   .rfl
   .rename_i h;simp[U,h]
  .rename_i a;simp only[U];split
   .rename_i g;subst g;rw[y (λh=>a h.symm)]
   .exact A2 t k b
def pV(a:St) d x:(a.put d x).kn=bs a.kn [(.s d,ad<|.v x)]:=by
 funext k;cases k with
 |s t=>
  by_cases e:d=t
  .simp[St.kn,St.put,U,bs,aC,e]
  .simp[St.kn,St.put,U,bs,aC,e]
 |m id=>simp[St.kn,St.put,bs,aC]
def KU(a:St) d x:(a.pm d x).kn=bs a.kn [(.m d,ad<|.b x)]:=by
 funext k;cases k with
 |s t=>simp[St.kn,St.pm,bs,aC]
 |m id=>
  by_cases e:d=id
  .simp[St.kn,St.pm,U,bs,aC,e]
  .simp[St.kn,St.pm,U,bs,aC,e]
def DE(a:St) d id x b:((a.pm id b).put d x).kn=bs a.kn [(.s d,ad<|.v x),(.m id,ad<|.b b)]:=by
 funext k;cases k with
 |s t=>
  by_cases e:d=t
  .simp[St.kn,St.put,St.pm,U,bs,aC,e]
  .simp[St.kn,St.put,St.pm,U,bs,aC,e]
 |m j=>
  by_cases e:id=j
  .simp[St.kn,St.put,St.pm,U,bs,aC,e]
  .simp[St.kn,St.put,St.pm,U,bs,aC,e]
def XD(a:St) d:(a.del d).kn=bs a.kn [(.s d,none)]:=by
 funext k;cases k with
 |s t=>
  by_cases e:d=t
  .simp[St.kn,St.del,A2,bs,aC,e]
  .simp[St.kn,St.del,A2,bs,aC,e]
 |m id=>simp[St.kn,St.del,bs,aC]
abbrev Ks:=E Key×E Key
def bJ:E eQ->E Key
 |[]=>[]
 | .tmp t::a=> .s t::bJ a
 |_::a=>bJ a
def cY:E V->E Key
 |[]=>[]
 |id::a=> .m id::cY a
def eI(a:St):∀(xs:E eQ),∀k∈dw (xs.flatMap<|cH a),k∈bJ xs
 |[],k,h=>by simp[dw]at h
 |x::xs,k,h=>by
  simp only[dw,lq,fF,be]at h;rcases h with h|h
  .cases x with
   |tmp t=>
    simp only[cH]at h
    split at h
    .simp at h;subst h;simp[bJ]
    .simp at h
   |_=>simp[cH]at h
  .have:=eI a xs k h;cases x<;>simp[bJ,this]
def kf(b:St):∀(a:E V),∀k∈dw (fM b a),k∈cY a
 |[],k,h=>by simp[dw,fM]at h
 |id::a,k,h=>by
  simp only[dw,fM,lq,fF,be]at h;rcases h with h|h
  .split at h
   .simp at h;subst h;simp[cY]
   .simp at h
  .have:=kf b a k h;simp[cY,this]
def DF(tt:TT)(n a:V)(h:au V)(op:Op):St->au (St×Pr×Ks)
 |⟨sl,mem,nx,gd⟩=>match h,op with
 |some d,.load t x=>if d<n then(match St.ev ⟨sl,mem,nx,gd⟩ x with
   |some v=>(match GN tt ⟨sl,mem,nx,gd⟩ t v with
    |some (b,p,ids)=>ad (⟨(d,b)::sl,mem,nx,gd⟩,p,(bJ [x]++cY ids,[.s d]))
    |none=>none)
   |none=>none)else none
 |none,.store t x b=>(match St.ev ⟨sl,mem,nx,gd⟩ x,St.ev ⟨sl,mem,nx,gd⟩ b with
   |some (.c<|.Y id m k 0),ad f=>(match U id mem,ou tt t,kI f with
    |some (.vec g T xs),ad (sz,_),ad cs=>if T.n=m/\sz=m then(match GR T cs with
     |some l=>ad (⟨sl,(id,.vec g T<|xs.set k l)::mem,nx,gd⟩,.AQ k<|Z xs,(bJ [x,b]++cY [id],[.m id]))
     |none=>none)else none
    |_,_,_=>none)
   |some o,ad f=>(match GQ tt ⟨sl,mem,nx,gd⟩ t o f with
    |some (id,w)=>ad (⟨sl,(id,w)::mem,nx,gd⟩,.t,(bJ [x,b]++cY [id],[.m id]))
    |none=>none)
   |_,_=>none)
 |some d,.indexAddr t x b=>if d<n then(match St.ev ⟨sl,mem,nx,gd⟩ x,St.ev ⟨sl,mem,nx,gd⟩ b with
   |some (.c<|.X id),ad f=>(match QH tt ⟨sl,mem,nx,gd⟩ t id f with
    |some (v,p)=>ad (⟨(d,v)::sl,mem,nx,gd⟩,p,(bJ [x,b]++cY [id],[.s d]))
    |none=>none)
   |some (.c<|.W id off len),ad f=>(match QJ tt ⟨sl,mem,nx,gd⟩ t id off len f with
    |some (v,p)=>ad (⟨(d,v)::sl,mem,nx,gd⟩,p,(bJ [x,b]++cY [id],[.s d]))
    |none=>none)
   |some _,ad _=>(match tF tt ⟨sl,mem,nx,gd⟩ (.indexAddr t x b)with
    |some (v,p)=>ad (⟨(d,v)::sl,mem,nx,gd⟩,p,(bJ [x,b],[.s d]))
    |none=>none)
   |_,_=>none)else none
 |some d,.build t parts=>if d<n then(match QM tt ⟨sl,mem,nx,gd⟩ t parts.toList with
   |some v=>ad (⟨(d,v)::sl,mem,nx,gd⟩,.t,(bJ (Op.build t parts).operands.toList,[.s d]))
   |none=>none)else none
 |some d,.call ⟨.builtin .len,args,i⟩=>if d<n then(match args.toList,i.toList with
   |[x],[t]=>(match St.ev ⟨sl,mem,nx,gd⟩ x with
    |some (.c<|.X id)=>(match QK tt ⟨sl,mem,nx,gd⟩ t id with
     |some v=>ad (⟨(d,v)::sl,mem,nx,gd⟩,.t,(bJ [x]++cY [id],[.s d]))
     |none=>none)
    |some v=>(match GC tt t v with
     |some u=>ad (⟨(d,u)::sl,mem,nx,gd⟩,.t,(bJ [x],[.s d]))
     |none=>none)
    |none=>none)
   |_,_=>none)else none
 |some d,.box g x=>if d<n then(match St.ev ⟨sl,mem,nx,gd⟩ x with
   |some v=>(match kI v with
    |some cs=>if cs.all kd=ae then ad (⟨(d,.c<|.P a 0)::sl,(a,.box g 0 cs)::mem,nx,gd⟩,.t,(bJ [x],[.s d,.m a]))else none
    |none=>none)
   |none=>none)else none
 |some d,.alloc g=>if d<n then(match U g tt with
   |some B=>ad (⟨(d,.c<|.P a 0)::sl,(a,.box g 0<|B.zero.map ZV.pR)::mem,nx,gd⟩,.t,([],[.s d,.m a]))
   |none=>none)else none
 |some d,op=>if d<n then(match tF tt ⟨sl,mem,nx,gd⟩ op with
   |some (x,p)=>ad (⟨(d,x)::sl,mem,nx,gd⟩,p,(bJ op.operands.toList,[.s d]))
   |none=>none)else none
 |none,_=>none
def lr(P:bI)(n:V)(a:Array aX)(i:V)(h b:St)(d:V)(l:Ks):Prop:=
 ∃f g,ig P n a i f g d/\(∀m∈f,h.kn m.1=ad m.2)/\b.kn=bs h.kn g/\(∀k∈dw f,k∈l.1)/\∀k∈fP g,k∈l.2
def KV(l:cq P tt=ae){n b}{ops}{i}{o}(L:ops[i]? =ad o)(Q:o.guard=none){st st'}{p}{ks}
  (h:DF tt n b o.dst o.op st=ad (st',p,ks)) (hp:p):lr P n ops i st st' b ks:=by
 let ⟨sl,mem,nx,gd⟩:=st
 simp only[DF]at h
 split at h
 .rename_i d t x w a;split at h
  .rename_i f;split at h
   .rename_i v z;split at h
    .rename_i y q D I;simp only[aq,bK]at h;obtain⟨rfl,rfl,rfl⟩:=h;refine⟨_,_,Xv l L Q w f a z I hp b,?_,pV ⟨sl,mem,nx,gd⟩ d y,?_,λk hk=>jG⟩
     .intro s B;rcases be.1 B with h|h
      .exact dX _ x s h
      .exact lp _ D s h
     .intro k hk;simp only[dw,fF,be]at hk;rcases hk with h|h
      .exact eH _<|eI ⟨sl,mem,nx,gd⟩ [x] k KW
      .exact gI _<|kf ⟨sl,mem,nx,gd⟩ D k h
    .simp at h
   .simp at h
  .simp at h
 .rename_i t x y w a;have K:∀g k,k∈dw (cH ⟨sl,mem,nx,gd⟩ x++cH ⟨sl,mem,nx,gd⟩ y++fM ⟨sl,mem,nx,gd⟩ [g])->k∈bJ [x,y]++cY [g]:=by
   intro g k hk;simp only[dw,fF,be]at hk;rcases hk with(h|h)|h
   .exact eH _<|eI ⟨sl,mem,nx,gd⟩ [x,y] k tL
   .exact eH _<|eI ⟨sl,mem,nx,gd⟩ [x,y] k vE
   .exact gI _<|kf ⟨sl,mem,nx,gd⟩ [g] k h
  have H:∀g,∀s∈cH ⟨sl,mem,nx,gd⟩ x++cH ⟨sl,mem,nx,gd⟩ y++fM ⟨sl,mem,nx,gd⟩ [g],St.kn ⟨sl,mem,nx,gd⟩ s.1=ad s.2:=by
   intro g s B;rcases be.1 B with h|h
   .rcases be.1 h with h|h
    .exact dX _ x s h
    .exact dX _ y s h
   .exact lp _ [g] s h
  split at h
  .rename_i g m k J C W;split at h
   .rename_i E T xs sz ag U I M X;split at h
    .rename_i c;split at h
     .rename_i e j;simp only[aq,bK]at h;obtain⟨rfl,rfl,rfl⟩:=h;let ⟨V,h2⟩:=c;subst h2;have F:=aiA j;subst F;exact⟨_,_,XB l L Q w a C W I V M X hp b,H g,KU ⟨sl,mem,nx,gd⟩ g _,K g,λk hk=>jG⟩
     .simp at h
    .simp at h
   .simp at h
  .rename_i vx J C W;split at h
   .rename_i g Y Z;simp only[aq,bK]at h;obtain⟨rfl,rfl,rfl⟩:=h;exact⟨_,_,Xy l L Q w a C W Z b,H g,KU ⟨sl,mem,nx,gd⟩ g Y,K g,λk hk=>jG⟩
   .simp at h
  .simp at h
 .rename_i d t x y w a;split at h
  .rename_i f;split at h
   .rename_i g J C W;split at h
    .rename_i v q j;simp only[aq,bK]at h;obtain⟨rfl,rfl,rfl⟩:=h;refine⟨_,_,aix l L Q w f a C W j hp b,?_,pV ⟨sl,mem,nx,gd⟩ d _,?_,λk hk=>jG⟩
     .intro s B;rcases be.1 B with h|h
      .rcases be.1 h with h|h
       .exact dX _ x s h
       .exact dX _ y s h
      .exact lp _ [g] s h
     .intro k hk;simp only[dw,fF,be]at hk;rcases hk with(h|h)|h
      .exact eH _<|eI ⟨sl,mem,nx,gd⟩ [x,y] k tL
      .exact eH _<|eI ⟨sl,mem,nx,gd⟩ [x,y] k vE
      .exact gI _<|kf ⟨sl,mem,nx,gd⟩ [g] k h
    .simp at h
   .rename_i g off len J C W;split at h
    .rename_i v q j;simp only[aq,bK]at h;obtain⟨rfl,rfl,rfl⟩:=h;refine⟨_,_,aiy l L Q w f a C W j hp b,?_,pV ⟨sl,mem,nx,gd⟩ d _,?_,λk hk=>jG⟩
     .intro s B;rcases be.1 B with h|h
      .rcases be.1 h with h|h
       .exact dX _ x s h
       .exact dX _ y s h
      .exact lp _ [g] s h
     .intro k hk;simp only[dw,fF,be]at hk;rcases hk with(h|h)|h
      .exact eH _<|eI ⟨sl,mem,nx,gd⟩ [x,y] k tL
      .exact eH _<|eI ⟨sl,mem,nx,gd⟩ [x,y] k vE
      .exact gI _<|kf ⟨sl,mem,nx,gd⟩ [g] k h
    .simp at h
   .split at h
    .rename_i v q C;simp only[aq,bK]at h;obtain⟨rfl,rfl,rfl⟩:=h;refine⟨_,_,KL l L Q w f (by rw[a];exact C) hp b,ri _ _,pV ⟨sl,mem,nx,gd⟩ _ _,λk hk=>?_,λk hk=>jG⟩;rw[a]at hk;exact eI ⟨sl,mem,nx,gd⟩ _ k hk
    .simp at h
   .simp at h
  .simp at h
 .rename_i d t N w a;split at h
  .rename_i f;split at h
   .rename_i v z;simp only[aq,bK]at h;obtain⟨rfl,rfl,rfl⟩:=h;refine⟨_,_,aiF l L Q w f a z b,ri _ _,pV ⟨sl,mem,nx,gd⟩ _ _,λk hk=>?_,λk hk=>jG⟩;rw[a]at hk;exact eI ⟨sl,mem,nx,gd⟩ _ k hk
   .simp at h
  .simp at h
 .rename_i d args O w a;split at h
  .rename_i f;split at h
   .rename_i x t ha ht;have r:args= #[x]:=GK;have G:O= #[t]:=QC;subst r G;split at h
    .rename_i g C;split at h
     .rename_i v j;simp only[aq,bK]at h;obtain⟨rfl,rfl,rfl⟩:=h;refine⟨_,_,aiz l L Q w f a C j b,?_,pV ⟨sl,mem,nx,gd⟩ d _,?_,λk hk=>jG⟩
      .intro s B;rcases be.1 B with h|h
       .exact dX _ x s h
       .exact lp _ [g] s h
      .intro k hk;simp only[dw,fF,be]at hk;rcases hk with h|h
       .exact eH _<|eI ⟨sl,mem,nx,gd⟩ [x] k KW
       .exact gI _<|kf ⟨sl,mem,nx,gd⟩ [g] k h
     .simp at h
    .rename_i v C;split at h
     .rename_i u hu;simp only[aq,bK]at h;obtain⟨rfl,rfl,rfl⟩:=h;refine⟨_,_,KL l L Q w f (x:=u) (p:= .t) (st:=⟨sl,mem,nx,gd⟩) (by rw[a];simp[tF,C,hu]) A b,ri _ _,pV ⟨sl,mem,nx,gd⟩ _ _,λk hk=>?_,λk hk=>jG⟩;rw[a]at hk;exact eI ⟨sl,mem,nx,gd⟩ [x] k hk
     .simp at h
    .simp at h
   .simp at h
  .simp at h
 .rename_i d E x w a;split at h
  .rename_i f;split at h
   .rename_i v z;split at h
    .rename_i U X;split at h
     .rename_i R;simp only[aq,bK]at h;obtain⟨rfl,rfl,rfl⟩:=h;exact⟨_,_,aiv L Q w f a z X R b,dX _ x,DE ⟨sl,mem,nx,gd⟩ d b _ _,λk hk=>eI ⟨sl,mem,nx,gd⟩ [x] k (by simpa[dw]using hk),λk hk=>jG⟩
     .simp at h
    .simp at h
   .simp at h
  .simp at h
 .rename_i d E w a;split at h
  .rename_i f;split at h
   .rename_i ti S;simp only[aq,bK]at h;obtain⟨rfl,rfl,rfl⟩:=h;exact⟨_,_,aiw l L Q w f a S b,ax,DE ⟨sl,mem,nx,gd⟩ d b _ _,by simp[dw],λk hk=>jG⟩
   .simp at h
  .simp at h
 .rename_i d _ w _ _ _ _ _ _;split at h
  .rename_i f;split at h
   .rename_i x q C;simp only[aq,bK]at h;obtain⟨rfl,rfl,rfl⟩:=h;exact⟨_,_,KL l L Q w f C hp b,ri _ _,pV ⟨sl,mem,nx,gd⟩ _ x,λk hk=>eI ⟨sl,mem,nx,gd⟩ _ k hk,λk hk=>jG⟩
   .simp at h
  .simp at h
 .simp at h
def rj(a:E aX)(b:V):au V:=match a[b]? with
 |some o=>o.dst
 |none=>none
def DG{d}{k f}(h:rj d.toList k=ad f){g}{a:Act}{b}(o:a8 g (.c<|.B b) (a.tmps.getD f undef)):yielded d a.tmps k=ad b:=by
 have l:a.tmps.getD f undef= .bool b:=o;have:(d[k]?).bind (·.dst)=ad f:=by
  unfold rj at h;rw[DH]at h;cases n:d[k]? with
  |none=>rw[n]at h;simp at h
  |some p=>rw[n]at h;simpa using h
 unfold yielded;rw[this];rcases pN f a.tmps.size with i|m
 .have:a.tmps[f]? =ad (.bool b):=by rw[QO i];rw[ls,QO i]at l;simpa using l
  simp[this]
 .exfalso;rw[ls,Array.getElem?_eq_none m]at l;simp[undef]at l
def XE{n t}{d}{i}{o}(ho:d[i]? =ad o){ix}{f b}(hg:o.guard=ad (ix,f)){p}(hj:rj d.toList ix=ad p){x u}(hb:U p x.sl=ad (.c<|.B b))(H:b=f){L}
  (h:lr P n (#[{o with guard:=none}]) 0 x u t L):lr P n d i x u t (.s p::L.1,L.2):=by
 let ⟨rd,wr,D,C,T,X,e⟩:=h
 refine⟨(.s p,.v<|.c<|.B b)::rd,wr,?_,?_,T,λk z=>?_,e⟩
 .intro F q Q m E g W a K w l A G;have r:=D F q Q m E g W a K w l (λy cc=>A y dT) G;have I:=l.dv p (.c<|.B b)<|A (.s p,.v<|.c<|.B b) ax;have J:gx o (yielded d a.tmps)=ae:=by simp only[gx,hg,DG hj I,H,beq_self_eq_true]
  unfold wpOp at r⊢;simp only[ho,J,cd];simp only[tE,mX,gx,cd]at r;exact r
 .intro y cc;rcases bZ.1 cc with rfl|h
  .simp[St.kn,hb]
  .exact C y h
 .simp only[dw,gJ,bZ]at z;rcases z with h|h
  .simp[h]
  .exact lL _<|X k h
def aiG{n w}{m}{i}{o:aX}(ho:m[i]? =ad o){ix}{l b}(hg:o.guard=ad (ix,l)){p}(hj:rj m.toList ix=ad p){H}(hb:U p H.sl=ad (.c<|.B b))(L:b= !l)
  {d:V} (hd:o.dst=ad d):lr P n m i H (H.del d) w ([.s p],[.s d]):=by
 refine⟨[(.s p,.v<|.c<|.B b)],[(.s d,none)],?_,?_,XD H d,λk hk=>by simpa[dw]using hk,λk hk=>jG⟩
 .intro F q Q T G g W a K x f r z;have A:=f.dv p (.c<|.B b)<|r (.s p,.v<|.c<|.B b) ax;have D:gx o (yielded m a.tmps)=ah:=by simp only[gx,hg,DG hj A,L];cases l<;>rfl
  unfold wpOp;simp only[ho,D,iF,bQ,hd];refine z g W _<|f.step (chg:=λ_=>False) (g':=g) (W':=W) ⟨⟨cE.refl _,λ_ _=>rfl⟩,λ_ _ _=>rfl,f.sub,aT _,λ_ _ _=>rfl,J,J,J⟩ _ w x nz f.defers ?_ (λ_ h=>h.elim) ?_ ?_ ?_ ?_
  .intro t ht;have X:d≠t:=sD;simp[gT,kH X]
  .intro t u ht;simp only[aC]at ht;split at ht<;>simp at ht
  .intro E b ht;simp[aC]at ht
  .intro k y ht;simp only[aC]at ht;split at ht<;>simp at ht
  .intro E y ht;simp[aC]at ht
 .intro I C;simp only[iw]at C;subst C;simp[St.kn,hb]
def aiH{n w}{m}{i}{o:aX}(ho:m[i]? =ad o){ix}{l b}(hg:o.guard=ad (ix,l)){p}(hj:rj m.toList ix=ad p){L}(hb:U p L.sl=ad (.c<|.B b))(T:b= !l)
  {d:V} (hd:o.dst=ad d):lr P n m i L (L.put d<|.c .any) w ([.s p],[.s d]):=by
 refine⟨[(.s p,.v<|.c<|.B b)],[(.s d,ad<|.v<|.c .any)],?_,?_,pV L d _,λk hk=>by simpa[dw]using hk,λk hk=>jG⟩
 .intro F D Q X N g W a K x f E G;have I:=f.dv p (.c<|.B b)<|E (.s p,.v<|.c<|.B b) ax;have M:gx o (yielded m a.tmps)=ah:=by simp only[gx,hg,DG hj I,T];cases l<;>rfl
  unfold wpOp;simp only[ho,M,iF,bQ,hd];refine G g W _<|f.step (chg:=λ_=>False) (g':=g) (W':=W) ⟨⟨cE.refl _,λ_ _=>rfl⟩,λ_ _ _=>rfl,f.sub,aT _,λ_ _ _=>rfl,J,J,J⟩ _ w x nz f.defers ?_ (λ_ h=>h.elim) ?_ ?_ ?_ ?_
  .intro t ht;have q:d≠t:=sD;simp[gT,kH q]
  .intro t u ht;simp only[aC]at ht;split at ht
   .simp only[aq,Info.v.injEq]at ht;subst ht;exact A
   .simp at ht
  .intro z b ht;simp[aC]at ht
  .intro k y ht;simp only[aC]at ht;split at ht
   .simp only[aq]at ht;subst ht;intro z r;simp[Info.ak,AV.ak,C.ak]at r
   .simp at ht
  .intro z y ht;simp[aC]at ht
 .intro O H;simp only[iw]at H;subst H;simp[St.kn,hb]
def KX(tt:TT)(n f:V)(g:E aX)(o:aX)(a:St):au (St×Pr×Ks):=match o.guard with
 |none=>DF tt n f o.dst o.op a
 |some (j,want)=>(match rj g j with
  |some h=>(match U h a.gd,U h a.sl with
   |some dec,ad (.c<|.B b)=>if dec=want then(match DF tt n f o.dst o.op a with
     |some (i,p,k)=>ad (i,.an (.tz b want) p,(.s h::k.1,k.2))
     |none=>none)
    else(match o.dst with
     |some d=>ad (⟨(d,.c .any)::a.sl,a.mem,a.nx,a.gd⟩,.tz b<|!want,([.s h],[.s d]))
     |none=>none)
   |_,_=>none)
  |none=>none)
def XF(g:cq P tt=ae){n k}{a}{i}{o}(s:a[i]? =ad o){t l}{p}{u}
  (h:KX tt n k a.toList o t=ad (l,p,u)) (f:p):lr P n a i t l k u:=by
 unfold KX at h
 split at h
 .rename_i m;exact KV g s m h f
 .rename_i j v m;split at h
  .rename_i Q w;split at h
   .rename_i C b _ x;split at h
    .split at h
     .rename_i B q H K;simp only[aq,bK]at h;obtain⟨rfl,rfl,rfl⟩:=h;have f:=Pr.Gz f;exact XE s m w x f.1<|KV g (o:={o with guard:=none}) ax J K f.2
     .simp at h
    .split at h
     .rename_i d L;simp only[aq,bK]at h;obtain⟨rfl,rfl,rfl⟩:=h;exact aiH s m w x f L
     .simp at h
   .simp at h
  .simp at h
end
section
variable{P:bI}{tt:TT}
def mask(l:E Edge)(a:E V):V:=l.foldl (λs e=>if tv .any e then s|||2^e.on|||I a e.on 0 else s) 0
def pW:E aX->E V->E V
 |[],acc=>acc
 |o::os,acc=>pW os<|acc++[mask o.after.toList acc]
def DI:E aX->V->Bool
 |[],_=>ae
 |o::os,i=>o.after.toList.all (λa=> !tv .any a||decide (a.on<i))&&DI os (i+1)
def G0(a b:E Key):Bool:=a.any λk=>b.any λd=>k=d
def nH(a b:Ks):Bool:=G0 a.2 b.2||G0 a.2 b.1||G0 a.1 b.2
def A3(m:V)(b:Ks):E Ks->V->Bool
 |[],_=>ae
 |a::l,i=>(!nH a b||mY m i)&&A3 m b l (i+1)
def xd:E V->E Ks->E Ks->Bool
 |m::ms,b::a,done=>A3 m b done 0&&xd ms a (done++[b])
 |[],[],_=>ae
 |_,_,_=>ah
def pX(a:E aX)(b:E Ks):Bool:=DI a 0&&xd (pW a []) b []
def aiI{l}{b}{d}(h:(mask l b).testBit d=ae):∃a∈l,tv .any a=ae/\(a.on=d\/mY (I b a.on 0) d=ae):=by
 unfold mask at h;have f:∀(l:E Edge)(s:V),mY (l.foldl (λs a=>if tv .any a then s|||2^a.on|||I b a.on 0 else s) s) d=ae->
   mY s d=ae\/∃a∈l,tv .any a=ae/\(a.on=d\/mY (I b a.on 0) d=ae):=by
  intro l
  induction l with
  |nil=>intro s h;exact .inl h
  |cons a l k=>
   intro s h
   simp only[KR]at h
   rcases k _ h with h|⟨m,g,n,h2⟩
   .split at h
    .rename_i i;simp only[Nat.testBit_or,yL,Nat.testBit_two_pow,decide_eq_true_eq]at h;rcases h with(h|h)|h
     .exact .inl h
     .exact .inr ⟨a,ax,i,.inl h⟩
     .exact .inr ⟨a,ax,i,.inr h⟩
    .exact .inl h
   .exact .inr ⟨m,by simp[g],n,h2⟩
 rcases f l 0 h with h|h
 .simp at h
 .exact h
def QP{ops:Array aX}:∀(g:E aX)(a:E V),ops.toList=M (Z a) ops.toList++g->Z a+Z g=ops.size->
  (∀k(s:k<Z a) b,a[k].testBit b=ae->lM ops b k)->Z (pW g a)=ops.size/\∀k(s:k<Z (pW g a)) b,(pW g a)[k].testBit b=ae->lM ops b k
 |[],a,_,hl,h=>by simp only[pW];exact⟨tG,h⟩
 |o::g,a,he,hl,h=>by
  have t:ops[Z a]? =ad o:=by
   rw[<-DH,he,DB bX];simp only[gL];have:min (Z a) (Z ops.toList)=Z a:=by simp;simp at hl;omega
   rw[this];simp
  simp only[pW];refine QP g _ ?_ (by simp at hl⊢;omega) ?_
  .have d:Z a<Z ops.toList:=by simp;simp at hl;omega
   simp only[iX,iI,sH,eP];rw[QF d];have w:ops.toList[Z a]=o:=by have:=t;rw[<-DH,cO d]at this;simpa using this
   rw[w,lP];exact he
  .intro k s b n;rcases pN k (Z a)with m|x
   .rw[w6 m]at n;exact h k m b n
   .have:k=Z a:=by simp at s;omega
    subst this;simp only[List.getElem_append_right (aT _),kg,vw]at n;let ⟨e,u,v,i⟩:=aiI n;have f:e∈o.after:=by simpa using u
    rcases i with l|l
    .exact .one t f v l
    .rcases pN e.on (Z a)with p|p
     .rw[aN,cO p]at l;exact .more t f v J<|h e.on p b l
     .rw[aN,jS p]at l;simp at l
def XG:∀(d:E aX)(i:V),DI d i=ae->∀k o,d[k]? =ad o->∀b∈o.after,tv .any b=ae->b.on<i+k
 |[],_,_,k,o,h=>by simp at h
 |o::d,i,f,0,l,h=>by
  simp only[mX,aq]at h;subst h;simp only[DI,cD,mn,yL,G3,decide_eq_true_eq]at f;intro b g a;have:=f.1 b (by simpa using g);rcases this with h|h
  .rw[h]at a;cases a
  .omega
 |o::d,i,f,k+1,l,h=>by simp only[vu]at h;simp only[DI,cD]at f;intro b g a;have:=XG d (i+1) f.2 k l h b g a;omega
def XH{m:V}{b:Ks}:∀(l:E Ks)(i:V),A3 m b l i=ae->∀k a,l[k]? =ad a->nH a b=ae->mY m (i+k)=ae
 |[],_,_,k,a,h=>by simp at h
 |a::l,i,d,0,g,h=>by
  simp only[mX,aq]at h;subst h;simp only[A3,cD,yL,G3]at d;intro f;rcases d.1 with h|h
  .rw[h]at f;cases f
  .simpa using h
 |a::l,i,d,k+1,g,h=>by simp only[vu]at h;simp only[A3,cD]at d;intro f;have:=XH l (i+1) d.2 k g h f;rw[(G:i+(k+1)=i+1+k)];exact this
def XI:∀(g:E V)(d done:E Ks),xd g d done=ae->∀f m b,g[f]? =ad m->d[f]? =ad b->∀i a,i<done.length+f->(done++d)[i]? =ad a->nH a b=ae->mY m i=ae
 |m::g,b::d,done,h,0,n,o,hm,k=>by simp only[mX,aq]at hm k;subst hm k;simp only[xd,cD]at h;intro i a p ha l;rw[DA G]at ha;have:=XH done 0 h.1 i a ha l;simpa using this
 |m::g,b::d,done,h,f+1,n,o,hm,k=>by simp only[vu]at hm k;simp only[xd,cD]at h;intro i a p ha l;exact XI g d (done++[b]) h.2 f n o hm k i a bX A4 l
 |[],[],_,_,f,m,b,hm,_=>by simp at hm
 |[],_::_,_,h,_,_,_,_,_=>by simp[xd]at h
 |_::_,[],_,h,_,_,_,_,_=>by simp[xd]at h
def xe{a b}{k:Key}(d:k∈a)(f:k∈b):G0 a b=ae:=by simp only[G0,List.any_eq_true];exact⟨k,d,k,f,ax⟩
def QQ{d}{n}(h:pX d.toList n=ae):(∀i o g,d[i]? =ad o->g∈o.after->tv .any g=ae->g.on<i)/\
  ∀i f a b,i<f->f<d.size->n[i]? =ad a->n[f]? =ad b->nH a b=ae->lM d i f:=by
 simp only[pX,cD]at h
 refine⟨λi o g u v p=>?_,λi f a b s w ha p x=>?_⟩
 .have:=XG d.toList 0 h.1 i o (by rw[DH];exact u) g v p;omega
 .have t:=QP (ops:=d) d.toList [] ax ax (λk B=>by simp at B);have l:f<Z (pW d.toList []):=by rw[t.1];exact w
  have m:=XI _ _ [] h.2 f _ b (cO l) p i a (by simpa using s) A4 x;exact t.2 f l i m
def oN(a:Kn)(b:E (E (Key×Info)×E (Key×au Info))):Kn:=b.foldl (λa d=>bs a d.2) a
def XJ(a:E (E (Key×Info)×E (Key×au Info)))(b:E Ks):Prop:=
 Z b=Z a/\∀j(h:j<Z a)(d:j<Z b),(∀k∈dw a[j].1,k∈b[j].1)/\∀k∈fP a[j].2,k∈b[j].2
def RG(P:bI)(n:V)(a:Array aX)(f:Bool)(k i:V)(l:E aX)(m:St)(p:E Ks)(Q:St->Prop):Prop:=
 ay i a.toList=l->∃(b:E (E (Key×Info)×E (Key×au Info)))(d:St),Z b=Z l/\
  (∀j(h:j<Z b),sx P n a (i+j) b[j].1 b[j].2 (pP (λi=>1000000*k+1000*i)<|i+j))/\
  (∀j(h:j<Z b),∀o∈b[j].1,oN m.kn (M j b) o.1=ad o.2)/\
  d.kn=oN m.kn b/\d.nx=k+1/\a.size<=1000/\(f=ae->∃g,XJ b g/\pX a.toList (p++g)=ae)/\Q d
def G4{n}{b}{a}{d i}{f}{mem}{l}{m}{k}{Q:St->Prop}(h:Q ⟨f,mem,d+1,[]⟩)(o:(!a||pX b.toList k)=ae:=by kernel_rfl)(g:dU b.size 1000=ae:=by rfl):
  RG P n b a d i [] ⟨f,mem,l,m⟩ k Q:=by
 intro _
 refine⟨[],⟨f,mem,d+1,[]⟩,J,ax,ax,J,J,cP g,λp=>⟨[],⟨J,λj h=>by simp at h⟩,?_⟩,h⟩
 subst p
 simpa using o
def nJ{n}{a}{g}{m i}{o}{u}{st p}{ks}{k}{Q:St->Prop}
  (hs:a[i]? =ad o->lr P n a i st p (1000000*m+1000*i) k) (h:RG P n a g m (i+1) u p (ks++[k]) Q):RG P n a g m i (o::u) st ks Q:=by
 intro b
 have c:a[i]? =ad o:=by have:=bh (λl=>l[0]?) b;simpa[tJ]using this
 have d:ay (i+1) a.toList=u:=by rw[<-pY,b];rfl
 let ⟨rd,wr,v,w,s,x,B⟩:=hs c
 let ⟨ds,C,hl,e,h2,q,r,H,y,z⟩:=h d
 refine⟨(rd,wr)::ds,C,by simp[hl],?_,?_,?_,r,H,?_,z⟩
 .intro j hj;cases j with
  |zero=>simpa using v.Kw (new:=pP (λi=>1000000*m+1000*i) i) ⟨aT _,(G:1000000*m+1000*i<1000000*m+1000*(i+1))⟩
  |succ j=>
   have:=e j pZ
   rw[(G:i+(j+1)=i+1+j)]
   simpa using this
 .intro j hj X f;cases j with
  |zero=>simp only[vw]at f;simpa[oN]using w X f
  |succ j=>
   simp only[AW]at f
   have:=h2 j pZ X f
   rw[s]at this
   simpa[oN]using this
 .rw[q,s];simp[oN]
 .intro A;let ⟨K,⟨L,T⟩,t⟩:=y A;refine⟨k::K,⟨by simp[L],λj hj W=>?_⟩,by simpa using t⟩;cases j with
  |zero=>exact⟨x,B⟩
  |succ j=>exact T j pZ (by simpa using W)
def aiJ{n}{b}{k i}{l}{m}{o d}{Q:St->Prop}(h:RG P n b ah k i l m d Q):RG P n b ah k i l m o Q:=by intro a;let ⟨ds,f,hl,p,h2,s,t,g,_,u⟩:=h a;exact⟨ds,f,hl,p,h2,s,t,g,ax,u⟩
def aiK{n}{b}{a}{f i}{o}{l}{m d}{s}{k}{p}{Q:St->Prop}(g:cq P tt=ae)
  (t:KX tt n (1000000*f+1000*i) b.toList o m=ad (d,p,k)) (u:p) (h:RG P n b a f (i+1) l d (s++[k]) Q):RG P n b a f i (o::l) m s Q:=
 nJ (λv=>XF g v t u) h
def g8(a:Bool)(b:E Ks)(k:Ks):E Ks:=match a with
 |true=>b++[k]
 |false=>[]
def nK{n}{b}{a}{d i}{f}{g}{l}{k}{Q:St->Prop}(h:RG P n b a d i f g (g8 a l k) Q):RG P n b a d i f g (l++[k]) Q:=by
 cases a with
 |true=>exact h
 |false=>exact aiJ h
def runs(tt:TT)(n g:V)(a:Bool)(b:E aX):E aX->V->St->Pr->E Ks->E aX×V×St×Pr×E Ks
 |[],i,st,p,d=>([],i,st,p,d)
 |o::os,i,st,p,d=>match KX tt n (1000000*g+1000*i) b o st with
  |some (f,h,k)=>runs tt n g a b os (i+1) f (.an p h)<|g8 a d k
  |none=>(o::os,i,st,p,d)
def XK{n:V}{g:Array aX}{a:Bool}{x:V}{Q:St->Prop}(l:cq P tt=ae):∀(s:E aX)(i:V)(t:St)(p:Pr)(m:E Ks){b:E aX}{u:V}{d:St}{v:Pr}{f:E Ks},
  runs tt n x a g.toList s i t p m=(b,u,d,v,f)->v.h->(RG P n g a x u b d f Q)->p.h/\RG P n g a x i s t m Q
 |[],i,t,p,m,b,u,d,v,f,h,hp,w=>by simp only[runs,bK]at h;obtain⟨rfl,rfl,rfl,rfl,rfl⟩:=h;exact⟨hp,w⟩
 |o::s,i,t,p,m,b,u,d,v,f,h,hp,w=>by
  simp only[runs]at h;split at h
  .rename_i B q k H;let ⟨C,K⟩:=XK l s (i+1) B (.an p q) (g8 a m k) h hp w;let ⟨L,h2⟩:=Pr.Gz C;exact⟨L,aiK l H h2<|nK K⟩
  .simp only[bK]at h;obtain⟨rfl,rfl,rfl,rfl,rfl⟩:=h;exact⟨hp,w⟩
def kh{n}{b}{a}{k i}{l}{m}{o}{Q:St->Prop}{d}{s}{f}{u}{g}(p:cq P tt=ae)
  (h:runs tt n k a b.toList l i m .t o=(d,s,f,u,g)) (v:u) (w:RG P n b a k s d f g Q):RG P n b a k i l m o Q:=
 (XK p l i m .t o h v w).2
def vF{b:Type} ds(d:b) a(h:a<Z ds):I ds a d=ds[a]:=by rw[aN,cO h];rfl
def DJ ds(b:Kn):∀a,a<=Z ds->fold (λi=>(I ds i ([],[])).2) b (cw a)=oN b (M a ds):=by
 intro a;induction a with
 |zero=>intro _;rfl
 |succ a d=>
  intro f
  rw[yB,Qh,d G,QF G]
  simp only[oN,List.foldl_append,KR,List.foldl_nil]
  rw[vF ds _ a G]
def kb(a:St):V->Prop:=λb=>b<1000000*a.nx
def aiL{d}{m}{st}{Q:St->Prop}{w}{id}{kJ:Exit->Act->cx->Prop}(H:w.rd=none)(jQ:P.follows .mixedOrders=ae)(h:RG P w.n d m st.nx 0 d.toList st [] Q)
  (hQ:∀o,Q o->∀g W a,aJ w (kb o) o.kn g W a->kJ .normal a W) {g}{W}{a}(h0:aJ w (kb st) st.kn g W a):(Code.region id d m).wp P kJ a W:=by
 refine(Xc H).1 ?_
 have C:vp w.rd d:=by rw[H];exact ah2
 let ⟨ds,o,hl,N,h2,O,S,U,V,Y⟩:=h ax
 have hl':Z ds=d.size:=tG
 have A:∀i,i<d.size->sx P w.n d i ((I ds i ([],[])).1) ((I ds i ([],[])).2) (pP (λi=>1000000*st.nx+1000*i) i):=by intro i q;have:=N i G;rw[vF ds _ i G];simpa using this
 have D:∀i,i<d.size->∀e∈(I ds i ([],[])).1,fold (λi=>(I ds i ([],[])).2) st.kn (cw i) e.1=ad e.2:=by intro i q e K;rw[DJ ds st.kn i G];rw[vF ds _ i G]at K;exact h2 i G e K
 have v:∀g W a,aJ w (·<1000000*st.nx+1000*d.size) (fold (λi=>(I ds i ([],[])).2) st.kn<|cw d.size) g W a->kJ .normal a W:=by intro g W a E;refine hQ o Y g W a ?_;rw[O];rw[DJ ds st.kn d.size G,iY G]at E;exact E.weaken (λid a6=>by simp only[kb,S];omega)
 cases m with
 |false=>exact Qn (c:=λi=>1000000*st.nx+1000*i) (λi=>KY) h0 A D v C
 |true=>
  let ⟨L,⟨pQ,r⟩,T⟩:=V J
  have M:=QQ T
  have p:∀i j,i<j->j<d.size->∀a b:Ks,(L[i]? =ad a->L[j]? =ad b->nH a b=ae->lM d i j):=by intro i j l u a b ha hb hc;exact M.2 i j a b l u A4 vG hc
  have f:∀i(q:i<d.size),∃a,L[i]? =ad a/\(∀k∈dw (I ds i ([],[])).1,k∈a.1)/\∀k∈fP (I ds i ([],[])).2,k∈a.2:=by intro i q;have X:i<Z L:=G;refine⟨L[i],cO X,?_⟩;rw[vF ds _ i G];exact r i G X
  refine Qo (c:=λi=>1000000*st.nx+1000*i) (λi=>KY) jQ M.1 h0 A D ?_ ?_ ?_ v C
  .intro i j l u k s t;let ⟨a,ha,_,x⟩:=f i G;let ⟨b,hb,_,B⟩:=f j u;exact p i j l u a b ha hb (by simp only[nH,xe (x k s)<|B k t,DK])
  .intro i j l u k s t;let ⟨a,ha,_,x⟩:=f i G;let ⟨b,hb,y,_⟩:=f j u;exact p i j l u a b ha hb (by simp only[nH,xe (x k s)<|y k t,DK,DL])
  .intro i j l u k s t;let ⟨a,ha,z,_⟩:=f i G;let ⟨b,hb,_,B⟩:=f j u;exact p i j l u a b ha hb (by simp only[nH,xe (z k s)<|B k t,DL])
end
def ja:V->aR:=λ_=>undef
def fG(g:Gh):E AV->E aR->Prop
 |[],vs=>vs=[]
 |x::xs,vs=>∃v a,vs=v::a/\a8 g x v/\fG g xs a
def cM:E AV->E V
 |[]=>[]
 |x::xs=>x.ak++cM xs
def a8.iy{g}{x}{v}(h:a8 g x v)(a:x.ak=[]){H}(b:cE g.H H)(γ:V->aR):a8 ⟨H,γ⟩ x v:=
 a8.mono (known:=λ_=>False) ⟨b,λ_ h=>h.elim⟩ (by simp[a]) h
def fG.iy{g:Gh}{γ:V->aR}:∀{xs:E AV}{vs:E aR},fG g xs vs->cM xs=[]->fG ⟨g.H,γ⟩ xs vs
 |[],_,h,_=>h
 |x::xs,_,h,hm=>by simp only[cM,QE]at hm;obtain⟨v,a,rfl,b,d⟩:=h;exact⟨v,a,J,b.iy hm.1 (cE.refl _) γ,d.iy hm.2⟩
def KZ(W:cx)(H:FH)(f:AV)(g:Ending)(d:cx):Prop:=
 ∃v a,g= .returned v/\a8 ⟨a,ja⟩ f v/\cE H a/\(∀b o,b<W.heap.size->a b o=H b o)/\Sub a d/\Below W.heap.size W d
def mZ(P:bI)(f:FuncId):Bool:=match P.funcs[f]? with
 |some fn=>fn.name != "runtime.NumGoroutine" &&fn.body.isSome
 |none=>ah
structure ao(P:bI)(f:FuncId)(args:E AV)(r:AV):Prop where
 call:mZ P f=ae
 iy:r.ak=[]
 spec:∀H W vs,Sub H W->fG ⟨H,ja⟩ args vs->Calls P f vs.toArray W (KZ W H r)
section
variable{P:bI}{tt:TT}
def jw(a:St):E eQ->au (E AV)
 |[]=>ad []
 |x::xs=>match a.ev x,jw a xs with
  |some v,ad vs=>ad<|v::vs
  |_,_=>none
def A5{n:dm}{b:V->Prop}{l:Kn}{g:Gh}{W:cx}{a:Act}(h:aJ n b l g W a)(f:St):∀(xs:E eQ)(vs:E AV),jw f xs=ad vs->
  (∀d∈xs.flatMap (cH f),l d.1=ad d.2)->fG g vs (xs.map a.eval)
 |[],vs,he,_=>by simp only[jw,aq]at he;subst he;rfl
 |x::xs,vs,he,m=>by
  simp only[jw]at he;split at he
  .rename_i v i o k;simp only[aq]at he;subst he;refine⟨_,_,J,dq h f x v o<|λd cc=>m d dT,A5 h f xs i k<|λd cc=>m d ?_⟩;simp only[lq,be];exact .inr cc
  .simp at he
def XL{n L}{ops}{i}{o:aX}(ho:ops[i]? =ad o)(hg:o.guard=none){d:V}(hd:o.dst=ad d)(df:d<n){f}{args}{iz}(bO:o.op= .call ⟨.value<|.func f,args,iz⟩)
 {p}{vs}{T:AV} (hv:jw p args.toList=ad vs) (hm:cM vs=[]) (hf:ao P f vs T):lr P n ops i p (p.put d T) L (bJ args.toList,[.s d]):=by
 refine⟨args.toList.flatMap<|cH p,[(.s d,ad<|.v T)],?_,?_,pV p d T,eI p _,λk hk=>jG⟩
 .intro F jZ Q q σ g W a K C aS z O;have w:=(A5 aS p _ _ hv z).iy (γ:=ja) hm;have R:=hf.spec g.H W _ aS.sub w;unfold wpOp;simp only[ho,gx,hg,cd];refine .inl ?_;unfold oo;have A:(execOp a.eval o).run P W= .ok (.enter f<|args.map a.eval) W:=by
   have l:=hf.call;unfold mZ at l;rw[execOp,bO];cases B:P.funcs[f]? with
   |none=>rw[B]at l;simp at l
   |some fn=>
    rw[B]at l
    simp only[cD,bne_iff_ne,ne_eq]at l
    have S:fn.body≠none:=by intro U;rw[U]at l;simp at l
    simp[resolve,Act.eval,Deferred.ofValue,invoke,callFunc,B,l.1,S]
  rw[A];simp only[ny];have X:(args.map a.eval)=(args.toList.map a.eval).toArray:=yM;rw[X];refine R.mono ?_;rintro e Y ⟨v,N,rfl,c,hle,D,j,m⟩;simp only[hd];have E:d<a.tmps.size:=mm;refine O ⟨N,g.γ⟩ Y _<|aS.step (chg:=λ_=>False) (g':=⟨N,g.γ⟩) ⟨⟨hle,λ_ _=>rfl⟩,D,j,m.size,λk hk _=>m.block k hk,m.os,m.tape,m.output⟩ _ L C nz aS.defers ?_ (λ_ h=>h.elim) ?_ ?_ ?_ ?_
  .intro t ht;have G:d≠t:=sD;simp[gT,kH G]
  .intro t u ht;simp only[aC]at ht;split at ht
   .rename_i e;simp only[Key.s.injEq]at e;simp only[aq,Info.v.injEq]at ht;subst e;subst ht;have:=c.iy hf.iy (cE.refl _) g.γ;simpa[gT,E]using this
   .simp at ht
  .intro I b ht;simp[aC]at ht
  .intro k y ht;simp only[aC]at ht;split at ht
   .simp only[aq]at ht;subst ht;intro I J;have:I∈T.ak:=J;rw[hf.iy]at this;cases this
   .simp at ht
  .intro I y ht;simp[aC]at ht
 .intro Z M;let ⟨x,_,h⟩:=iV.1 M;exact dX p x Z h
def aiM{n}{b}{a}{t i}{d f:V}{args}{g}{x}{pos}{k}{u}{l}{mem}{m}{o}{v}{Q:St->Prop}{vs}{w}
  (B:jw ⟨l,mem,m,o⟩ args.toList=ad vs) (H:ao P f vs w) (h:RG P n b a t (i+1) u ⟨(d,w)::l,mem,m,o⟩ (g8 a v (bJ args.toList,[.s d])) Q) (L:cM vs=[]:=by rfl) (p:dt d n=ae:=by rfl):
  RG P n b a t i (⟨ad d,.call ⟨.value<|.func f,args,g⟩,x,pos,k,none⟩::u) ⟨l,mem,m,o⟩ v Q:=
 nJ (λC=>XL C J J (cP p) J B L H) (nK h)
def aiN{n}{k}{a}{x i}{d f:V}{args}{l}{H}{pos}{m}{L p}{g b}{T}{o}{mem}{t}{u}{W}{Q:St->Prop}{vs}{a7}
  (hj:rj k.toList L=ad p) (hb:U p o=ad (.c<|.B b)) (v:b=g)
  (hv:jw ⟨o,mem,t,u⟩ args.toList=ad vs) (hf:ao P f vs a7) (h:RG P n k a x (i+1) T ⟨(d,a7)::o,mem,t,u⟩ (g8 a W (.s p::bJ args.toList,[.s d])) Q) (hm:cM vs=[]:=by rfl) (w:dt d n=ae:=by rfl):
  RG P n k a x i (⟨ad d,.call ⟨.value<|.func f,args,l⟩,H,pos,m,ad (L,g)⟩::T) ⟨o,mem,t,u⟩ W Q:=
 nJ (λC=>XE C J hj hb v<|XL (ops:= #[⟨ad d,.call ⟨.value<|.func f,args,l⟩,H,pos,m,none⟩]) (i:=0) J J J (cP w) J hv hm hf) (nK h)
def aiO{n}{d}{a}{p i}t{b}{u}{g}{mem}{h}{l}{v}{Q:St->Prop}(x:U t g=ad (.c<|.B b))
  (H:b=ae->RG P n d a p i u ⟨(t,.c<|.B ae)::g,mem,h,(t,ae)::l⟩ v Q)
  (L:b=ah->RG P n d a p i u ⟨(t,.c<|.B ah)::g,mem,h,(t,ah)::l⟩ v Q):RG P n d a p i u ⟨g,mem,h,l⟩ v Q:=by
 have o:∀c:Bool,b=c->(⟨(t,.c<|.B c)::g,mem,h,(t,c)::l⟩:St).kn=(⟨g,mem,h,l⟩:St).kn:=by
  intro c e;subst e;funext k;cases k with
  |s C=>
   by_cases e:t=C
   .subst e;simp[St.kn,U,x]
   .simp[St.kn,U,e]
  |m id=>rfl
 cases b with
 |true=>
  intro w
  let ⟨ds,f,r⟩:=H J w
  rw[o ae J]at r
  exact⟨ds,f,r⟩
 |false=>
  intro w
  let ⟨ds,f,r⟩:=L J w
  rw[o ah J]at r
  exact⟨ds,f,r⟩
structure dm.pl(a:dm)(n:V):Prop where
 n:a.n=n
 k0:a.k0<=1
 rd:a.rd=none
 ds:a.ds=[]
abbrev gM:=dm->Exit->Act->cx->Prop
def TR(P:bI)(n:V)(d:Code)(b:St)(Q:gM):Prop:=∀F:dm,F.pl n->∀g W a,aJ F (kb b) b.kn g W a->d.wp P (Q F) a W
def fA(n:V)(d:Exit)(b:St)(Q:gM):Prop:=∀F:dm,F.pl n->∀g W a,aJ F (kb b) b.kn g W a->Q F d a W
def tM(P:bI)(b:Code)(Q:gM):gM:=λF=>Exit.then (λa W=>b.wp P (Q F) a W)<|Q F
def xf(a:V)(Q:gM):gM:=λF=>DM a<|Q F
def G5{d:Type}(b:d->St)(i:d->Prop)(h:d->V)(x:d)(Q:gM):gM:=λF=>Exit.then (λa W=>∃f g,i f/\h f<h x/\aJ F (kb<|b f) (b f).kn g W a)<|Q F
variable{n:V}{Q:gM}{st:St}
def dj{x b}(h:TR P n x st (tM P b Q)):TR P n (.seq x b) st Q:=λF d g W a f=>wp_seq<|h F d g W a f
def dc(h:fA n .normal st Q):TR P n .skip st Q:=λF b g W a d=>wp_skip<|h F b g W a d
def nL{b}(h:fA n (.exit b) st Q):TR P n (.exit b) st Q:=λF d g W a f=>wp_exit<|h F d g W a f
def bV(h:fA n .ret st Q):TR P n .ret st Q:=λF b g W a d=>wp_ret<|h F b g W a d
def az{b}{d}(h:TR P n d st (xf b Q)):TR P n (.block b d) st Q:=λF f g W a i=>wp_block<|h F f g W a i
def K0{d}{x h}{b}(k:st.ev d=ad (.c<|.B b))(l:b=ae->TR P n x st Q)(m:b=ah->TR P n h st Q):TR P n (.cond d x h) st Q:=by intro F i g W a f;have o:a8 g (.c<|.B b) (a.eval d):=dq f st d _ k<|dX st d;exact wp_cond_split o (λe=>l e F i g W a f)<|λe=>m e F i g W a f
def K1{m}{d}{b}(i:P.follows .mixedOrders=ae)(h:RG P n d b st.nx 0 d.toList st [] (λf=>fA n .normal f Q)):TR P n (.region m d b) st Q:=by intro F k g W a o;have p:=k.n;subst p;exact aiL k.rd i h (λf s g W a l=>s F k g W a l) o
def aK{a}(h:TR P n a st Q):fA n .normal st (tM P a Q):=h
def rk{b}{a}(h:fA n (.exit a) st Q):fA n (.exit a) st (tM P b Q):=h
def cQ{a}(h:fA n .ret st Q):fA n .ret st (tM P a Q):=h
def fB{a}(h:fA n .normal st Q):fA n .normal st (xf a Q):=h
def lQ{a}(h:fA n .ret st Q):fA n .ret st (xf a Q):=h
def nM{b}(h:fA n .normal st Q):fA n (.exit b) st (xf b Q):=λF d g W a f=>by simp only[xf,DM,cd];exact h F d g W a f
def K2{f b}(h:fA n (.exit b) st Q)(d:b≠f:=by decide):fA n (.exit b) st (xf f Q):=λF i g W a k=>by simp only[xf,DM,d,bQ];exact h F i g W a k
def ov{a:Type}{b:a->St}{f:a->Prop}{g:a->V}{x}{d}(h:fA n (.exit d) st Q):fA n (.exit d) st (G5 b f g x Q):=h
def mq{a:Type}{b:a->St}{d:a->Prop}{f:a->V}{x}(h:fA n .ret st Q):fA n .ret st (G5 b d f x Q):=h
def Wk(st b:St):Prop:=∀F:dm,F.k0<=1->∀g W a,aJ F (kb st) st.kn g W a->∃d,aJ F (kb b) b.kn d W a
def a4{f:Type}{b:f->St}{i:f->Prop}{h:f->V}{x}d(k:i d)(l:h d<h x)(m:Wk st (b d)):fA n .normal st (G5 b i h x Q):=by intro F o g W a p;let ⟨s,t⟩:=m F o.k0 g W a p;exact⟨d,s,k,l,t⟩
def aiP{i}{α:Type}(H:α->Act->cx->Prop)(L:α->V){Q:Exit->Act->cx->Prop} x{a}{w}(t:H x a w)
  (round:∀x a w,H x a w->i.wp P (Exit.then (λp s=>∃u,H u p s/\L u<L x) Q) a w):(Code.loop i).wp P Q a w:=by
 intro b k K
 have T:∀n x a w,L x=n->H x a w->
   ∃e p s,Q e p s/\Arrives P (lone (b.at a<|.code i:: .inLoop i::k) K w) b k K e p s:=by
  intro n
  induction n using Nat.strongRecOn with
  |_ n X=>
   intro x a w j q
   let ⟨e,f,g,hq,d⟩:=round x a w q b (.inLoop i::k) K
   cases e with
   |normal=>
    let ⟨u,m,W⟩:=hq
    let ⟨v,B,C,o,h⟩:=X (L u) (j▸W) u f g J m
    exact⟨v,B,C,o,.of_steps (Steps.trans d<|.one step_inLoop) h⟩
   |exit id=>exact⟨_,f,g,hq,.pass (x:= .inLoop i) J (λ_ _=> .inl ax) d⟩
   |goto l=>exact⟨_,f,g,hq,.pass (x:= .inLoop i) J (λ_ _=> .inl ax) d⟩
   |ret=>exact⟨_,f,g,hq,.pass (x:= .inLoop i) J (λ_ _=> .inl ax) d⟩
   |panic ch=>exact⟨_,f,g,hq,.pass (x:= .inLoop i) J (λ_ _=> .inl ax) d⟩
   |outgrown=>exact⟨_,f,g,hq,.pass (x:= .inLoop i) J (λ_ _=> .inl ax) d⟩
 let ⟨e,p,s,hq,d⟩:=T _ x a w J t
 exact⟨e,p,s,hq,.of_steps (.one step_loop) d⟩
def bq{α:Type}(b:α->St)(d:α->Prop)(k:α->V) f{l}(p:d f)(s:Wk st (b f))(round:∀x,d x->TR P n l (b x) (G5 b d k x Q)):TR P n (.loop l) st Q:=by
 intro F m g W a t;let ⟨u,v⟩:=s F m.k0 g W a t;refine aiP (λx a W=>d x/\∃g,aJ F (kb<|b x) (b x).kn g W a) k f ⟨p,u,v⟩ ?_;rintro x a W ⟨h,g,hg⟩;refine wp_mono (round x h F m g W a hg) ?_;intro e H K o;cases e with
 |normal=>
  let ⟨w,i,B,h2,C⟩:=o
  exact⟨w,⟨B,i,C⟩,h2⟩
 |_=>exact o
end
section
variable{P:bI}{tt:TT}{n:V}{Q:gM}{st:St}
def bg(v a:AV):Prop:=(∀g x,a8 g v x->a8 g a x)/\∀b∈a.ak,b∈v.ak
def bg.refl v:bg v v:=⟨λ_ _ h=>h,λ_ h=>h⟩
def bg.of_eq{v a}(h:v=a):bg v a:=h▸bg.refl v
def bg.nil T:bg (.c<|.V<|.slice none 0 0) (.c<|.S T []):=⟨λg x h=>by have a:x= .slice none 0 0:=h;subst a;exact⟨none,0,J,aT _,ax,.inl J⟩,q9⟩
def kK(b d:aD):Prop:=(∀N g W a,ic N g W a b->ic N g W a d)/\∀a∈d.ak,a∈b.ak
def kK.refl b:kK b b:=⟨λ_ _ _ _ h=>h,λ_ h=>h⟩
def kK.of_eq{b a}(h:b=a):kK b a:=h▸kK.refl b
def A6(l:E (V×AV)):E (V×AV)->Prop
 |[]=>True
 | (t,a)::b=>(∃v,U t l=ad v/\bg v a)/\A6 l b
def DN(l:E (V×aD)):E (V×aD)->Prop
 |[]=>True
 | (t,a)::b=>(∃v,U t l=ad v/\kK v a)/\DN l b
def A6.get{l:E (V×AV)}:∀{m:E (V×AV)},A6 l m->∀{t a},U t m=ad a->∃v,U t l=ad v/\bg v a
 |[],_,_,_,h=>by simp[U]at h
 | (k,x)::m,hw,t,a,h=>by
  simp only[U]at h;split at h
  .rename_i b;subst b;cases h;exact hw.1
  .exact A6.get hw.2 h
def DN.get{l:E (V×aD)}:∀{m:E (V×aD)},DN l m->∀{t a},U t m=ad a->∃v,U t l=ad v/\kK v a
 |[],_,_,_,h=>by simp[U]at h
 | (k,x)::m,hw,t,a,h=>by
  simp only[U]at h;split at h
  .rename_i b;subst b;cases h;exact hw.1
  .exact DN.get hw.2 h
def yN(b:V):E V->Bool
 |[]=>ae
 |id::a=>dt id b&&yN b a
def A7(b:V):E (V×AV)->Bool
 |[]=>ae
 | (_,v)::a=>yN b v.ak&&A7 b a
def xg(b:V):E (V×aD)->Bool
 |[]=>ae
 | (id,v)::a=>dt id b&&yN b v.ak&&xg b a
def K3{b:V}:∀{l:E V},yN b l=ae->∀a∈l,a<b
 |[],_,_,h=>by simp at h
 |f::g,d,a,h=>by
  simp only[yN,cD]at d;rcases bZ.1 h with rfl|h
  .exact cP d.1
  .exact K3 d.2 a h
def DO{b:V}:∀{l:E (V×AV)},A7 b l=ae->∀t v,U t l=ad v->∀d∈v.ak,d<b
 |[],_,_,_,h=>by simp[U]at h
 | (k,x)::f,a,t,v,h=>by
  simp only[A7,cD]at a;simp only[U]at h;split at h
  .cases h;exact K3 a.1
  .exact DO a.2 t v h
def DP{b:V}:∀{l:E (V×aD)},xg b l=ae->∀t v,U t l=ad v->t<b/\∀d∈v.ak,d<b
 |[],_,_,_,h=>by simp[U]at h
 | (k,x)::g,a,t,v,h=>by
  simp only[xg,cD]at a;simp only[U]at h;split at h
  .rename_i f;subst f;cases h;exact⟨cP a.1.1,K3 a.1.2⟩
  .exact DP a.2 t v h
def wk{st st'}(T:A6 st.sl st'.sl)(hm:DN st.mem st'.mem)(o:(A7 (1000000*st'.nx) st'.sl&&xg (1000000*st'.nx) st'.mem&&(dU 1 st'.nx||dU st.nx 0))=ae:=by rfl):Wk st st':=by
 intro F X g W a h;simp only[cD,yL]at o;let ⟨o,w⟩:=o;have B:∀d,d<F.k0->kb st' d/\g.γ d=F.γ0 d:=by
  intro d l;let ⟨K,h2⟩:=h.fv d l;refine⟨?_,h2⟩;have K:d<1000000*st.nx:=K;show d<1000000*st'.nx;rcases w with e|e
  .have:=cP e;omega
  .have:=cP e;omega
 have L:∀t f,st'.kn (.s t)=ad (.v f)->(∃v,st.kn (.s t)=ad (.v v)/\bg v f)/\∀d∈f.ak,d<1000000*st'.nx:=by intro t f e;simp only[St.kn,bS]at e;let ⟨x,hx,he⟩:=e;cases he;let ⟨v,hv,hle⟩:=T.get hx;exact⟨⟨v,p7,hle⟩,DO o.1 t f hx⟩
 have p:∀d i,st'.kn (.m d)=ad (.b i)->(∃b,st.kn (.m d)=ad (.b b)/\kK b i)/\d<1000000*st'.nx/\∀j∈i.ak,j<1000000*st'.nx:=by intro t f e;simp only[St.kn,bS]at e;let ⟨x,hx,he⟩:=e;cases he;let ⟨v,hv,hle⟩:=hm.get hx;exact⟨⟨v,p7,hle⟩,DP o.2 t f hx⟩
 refine⟨g,h.size,h.defers,?_,?_,?_,?_,?_,h.sub,h.below,h.le,h.fresh,B⟩
 .intro t f e;let ⟨⟨v,hv,hle⟩,_⟩:=L t f e;exact hle.1 _ _<|h.dv t v hv
 .intro d i e;let ⟨⟨b,q,hle⟩,_⟩:=p d i e;exact hle.1 _ _ _ _<|h.cA d b q
 .intro d u b i k e r y C;let ⟨⟨c,hc,_⟩,_⟩:=p d b e;let ⟨⟨z,H,_⟩,_⟩:=p u i r;exact h.inj d u c z k hc H y C
 .intro k x e d l;cases k with
  |s t=>
   cases x with
   |v f=>exact(L t f e).2 d l
   |b i=>simp only[St.kn,bS]at e;let ⟨_,_,he⟩:=e;cases he
  |m j=>
   cases x with
   |v f=>simp only[St.kn,bS]at e;let ⟨_,_,he⟩:=e;cases he
   |b i=>exact(p j i e).2.2 d l
 .intro d x e;cases x with
  |v f=>simp only[St.kn,bS]at e;let ⟨_,_,he⟩:=e;cases he
  |b i=>exact(p d i e).2.1
def eR{b}{st'}(f:Wk st st')(h:TR P n b st' Q):TR P n b st Q:=by intro F d g W a i;let ⟨k,l⟩:=f F d.k0 g W a i;exact h F d k W a l
def QR{b}{st'}(f:Wk st st')(h:fA n b st' Q):fA n b st Q:=by intro F d g W a i;let ⟨k,l⟩:=f F d.k0 g W a i;exact h F d k W a l
def A8(P:bI)(d:Func)(f:AV):gM:=λF e a W=>(∀b,¬F.own b)->bodyPost P d (KZ F.w0 F.H0 f) e a W
def oO(tt:TT)(st:St):yO->au AV
 | .tmp t=>U t st.sl
 | .cell t ty=>(match U t st.sl with
  |some (.c<|.P id off)=>(match U id st.mem,ou tt ty with
   |some (.box _ _ cs),ad (sz,a)=>nD cs off sz a
   |_,_=>none)
  |_=>none)
def rq:AV->au (Bool×E C)
 | .c x=>ad (ah,[x])
 | .a cs=>ad (ae,cs)
 | .t _=>none
def oP(tt:TT)(st:St):E yO->au (E<|Bool×E C)
 |[]=>ad []
 |x::xs=>(match oO tt st x with
  |some v=>(match rq v,oP tt st xs with
   |some s,ad a=>ad<|s::a
   |_,_=>none)
  |none=>none)
def lu(tt:TT)(st:St):E yO->au AV
 |[x]=>oO tt st x
 |xs=>(oP tt st xs).map .t
def A9(a:Array aR):yO->Go.Sem aR
 | .tmp t=>pure<|a.getD t undef
 | .cell b t=>do loadVar t (<-asAddr (a.getD b undef))
def XM(k:cq P tt=ae){s}{i:V->Prop}{g}{W}{a}(h:aJ s i st.kn g W a){x}{v}(hv:oO tt st x=ad v):
  ∃u,(A9 a.tmps x).run P W= .ok u W/\a8 g v u:=by
 cases x with
 |tmp t=>
  simp only[oO]at hv
  exact⟨_,by simp[A9,pure],h.dv t v p7⟩
 |cell b t=>
  simp only[oO]at hv
  split at hv
  .rename_i p l hl;split at hv
   .rename_i E w B sz X C m;let ⟨H,vs,rest,o,hh,K,_,_⟩:=h.cA p (.box E w B) (by simp[St.kn,C]);let ⟨L,d,hp⟩:=h.dv b (.c<|.P p l) A';rw[o]at d;simp only[aq]at d;subst d;let ⟨u,f,hu⟩:=GM (W:=W) k m K hv H 0 (λj T=>by have:=vz hh j bX;rw[w6 T]at this;simpa using this);refine⟨u,?_,hu⟩;simp only[eP]at f;simp only[A9,hp,asAddr];simpa[Instr.loadAt,Instr.sureAddr]using f
   .simp at hv
  .simp at hv
def QT{g}{v}{s}(h:rq v=ad s){u}(b:a8 g v u):AI g s u:=by
 cases v with
 |c x=>simp only[rq,aq]at h;subst h;exact b
 |a cs=>simp only[rq,aq]at h;subst h;exact b
 |t _=>simp[rq]at h
def yP(p:cq P tt=ae){H}{k:V->Prop}{g}{W}{a}(h:aJ H k st.kn g W a){fn}{rs}(w:fn.results=rs.toArray){v}(i:lu tt st rs=ad v):
  ∃u,(results fn a.tmps).run P W= .ok u W/\a8 g v u:=by
 have K:∀(rs:E yO)(o:E (Bool×E C)),oP tt st rs=ad o->∃f:E aR,(rs.mapM<|A9 a.tmps).run P W= .ok f W/\du g o f/\Z f=Z rs:=by
  intro rs;induction rs with
  |nil=>intro o b;simp only[oP,aq]at b;subst b;exact⟨[],by simp[pure],J,J⟩
  |cons x xs L=>
   intro o b
   simp only[oP]at b
   split at b
   .rename_i j B;split at b
    .rename_i s r T X;simp only[aq]at b;subst b;let ⟨u,hu,d⟩:=XM p h B;let ⟨f,l,m,hlen⟩:=L r X;refine⟨u::f,?_,⟨u,f,J,QT T d,m⟩,by simp[hlen]⟩;rw[GY];simp only[db,hu,dx,l];simp[pure]
    .simp at b
   .simp at b
 have e:results fn a.tmps=(do let vs <-rs.toArray.mapM (A9 a.tmps);pure (if h:vs.size=1 then vs[0]else .tuple vs)):=by unfold results;rw[w];rfl
 have t:Array.mapM (A9 a.tmps) rs.toArray=Functor.map List.toArray (rs.mapM<|A9 a.tmps):=ax
 rw[e,t]
 match rs,i with
 |[],i=>
  simp only[lu,oP,vH,aq]at i
  subst i
  exact⟨.tuple #[],by simp[Sem.run,pure],[],J,J⟩
 |[x],i=>
  let ⟨u,hu,d⟩:=XM p h i
  refine⟨u,?_,d⟩
  simp[hu,Sem.run,pure]
 |x::y::r,i=>
  simp only[lu,bS]at i
  obtain⟨o,b,rfl⟩:=i
  let ⟨f,l,m,hlen⟩:=K _ o b
  refine⟨.tuple f.toArray,?_,f,J,m⟩
  have c:f.toArray.size≠1:=by simp[hlen]
  simp only[map_eq_pure_bind,bind_assoc,pure_bind,db,l,dx]
  rw[dif_neg c]
  rfl
def iJ(i:cq P tt=ae){s}{t}{v l}(w:lu tt st t=ad v)(m:bg v l)(p:s.results=t.toArray:=by rfl)(x:l.ak=[]:=by rfl):fA n .ret st (A8 P s l):=by intro F B g W a h d;let ⟨u,hu,f⟩:=yP i h p w;refine⟨h.defers.trans B.ds,u,hu,u,g.H,J,?_,h.le,λb o C=>h.fresh b o C<|d b,h.sub,⟨h.below.os,h.below.tape,h.below.output,h.below.size,λk K=>h.below.block k K<|d k⟩⟩;exact(m.1 _ _ f).iy x (cE.refl _) ja
def dy:V->E AV->E (V×AV)
 |_,[]=>[]
 |i,v::vs=>(i,v)::dy (i+1) vs
def lv{g:Gh}:∀(vs:E AV)(d:E aR)(i:V),fG g vs d->∀t v,U t (dy i vs)=ad v->i<=t/\∃u,d[t-i]? =ad u/\a8 g v u/\∀b∈v.ak,b∈cM vs
 |[],_,i,_,t,v,h=>by simp[dy,U]at h
 |x::vs,_,i,f,t,v,h=>by
  obtain⟨u,k,rfl,l,m⟩:=f;simp only[dy,U]at h;split at h
  .rename_i e;subst e;cases h;exact⟨aT _,u,ax,l,λb a=>by simp[cM,a]⟩
  .let ⟨B,o,p,s,w⟩:=lv vs k (i+1) m t v h;refine⟨G,o,?_,s,λb a=>by simp[cM,w b a]⟩;rw[(G:t-i=(t-(i+1))+1)];simpa using p
def vI{g:Gh}:∀{vs:E AV}{a:E aR},fG g vs a->Z a=Z vs
 |[],_,h=>by simp only[fG]at h;subst h;rfl
 |_::vs,_,h=>by obtain⟨u,d,rfl,_,b⟩:=h;simp[vI b]
def DQ{f}{g}{T}{args}{w}(hf:P.funcs[f]? =ad g)(hb:g.body=ad T)(hN:g.ntmps=n)(i:dU args.length n=ae)(B:cM args=[])(L:w.ak=[])(p8:(g.name != "runtime.NumGoroutine")=ae)
  (h:TR P n T ⟨dy 0 args,[],0,[]⟩ (A8 P g w)):ao P f args w:=by
 refine⟨yQ,L,?_⟩
 intro H W vs l d
 refine calls_of_wp hf hb ?_
 have K:=vI d
 have i:=cP i
 refine wp_mono (h {w0:=W,H0:=H,n:=n} ⟨J,bf _,J,J⟩ ⟨H,ja⟩ W _ ⟨?_,J,?_,?_,?_,?_,?_,l,⟨J,J,J,aT _,λ_ _ _=>rfl⟩,cE.refl _,λ_ _ _ _=>rfl,λ_ h=>absurd h<|tN _⟩)<|λe a F q=>q<|λ_ h=>h
 .simp[hN];omega
 .intro t v X;simp only[St.kn,bS]at X;let ⟨x,hx,he⟩:=X;cases he;let ⟨_,u,hu,z,_⟩:=lv args vs 0 d t v hx;have o:vs[t]? =ad u:=vJ;have jh:t<Z vs:=(pS.1 o).1;have:(vs.toArray++Array.replicate (g.ntmps-vs.toArray.size) undef).getD t undef=u:=by rw[ls,tO yR];simp[o]
  rw[this];exact z
 .intro p b e;simp[St.kn,U]at e
 .intro p A b G k e;simp[St.kn,U]at e
 .intro k x e p C;cases k with
  |m j=>simp[St.kn,U]at e
  |s t=>
   simp only[St.kn,bS]at e
   let ⟨y,D,he⟩:=e
   subst he
   let ⟨_,u,_,_,E⟩:=lv args vs 0 d t y D
   have:=E p C
   rw[B]at this
   cases this
 .intro p x e;simp[St.kn,U]at e
end
def sR{l:E (V×AV)}{t:V}{v:AV}(h:U t l=ad v):∃x,U t l=ad x/\bg x v:=⟨v,h,bg.refl v⟩
def bR{l:E (V×aD)}{t:V}{v:aD}(h:U t l=ad v):∃x,U t l=ad x/\kK x v:=⟨v,h,kK.refl v⟩
def sE{l:E (V×AV)}{t:V}{w v:AV}(h:U t l=ad w)(a:w=v):∃x,U t l=ad x/\bg x v:=⟨w,h,bg.of_eq a⟩
def bE{l:E (V×aD)}{t:V}{w v:aD}(h:U t l=ad w)(a:w=v):∃x,U t l=ad x/\kK x v:=⟨w,h,kK.of_eq a⟩
def bM{b:E (V×AV)}:∀{l:E (V×AV)},l.map (λa=>U a.1 b)=l.map (λa=>ad a.2)->A6 b l
 |[],_=>trivial
 | (t,v)::l,h=>⟨⟨v,(K4 h).1,bg.refl v⟩,bM (K4 h).2⟩
def ow{b:E (V×aD)}:∀{l:E (V×aD)},l.map (λa=>U a.1 b)=l.map (λa=>ad a.2)->DN b l
 |[],_=>trivial
 | (t,v)::l,h=>⟨⟨v,(K4 h).1,kK.refl v⟩,ow (K4 h).2⟩
def aV{d a:St}(f:a.sl.map (λb=>U b.1 d.sl)=a.sl.map (λb=>ad b.2):=by rfl)(g:a.mem.map (λb=>U b.1 d.mem)=a.mem.map (λb=>ad b.2):=by rfl)(h:(A7 (1000000*a.nx) a.sl&&xg (1000000*a.nx) a.mem&&(dU 1 a.nx||dU d.nx 0))=ae:=by rfl):Wk d a:=wk (bM f) (ow g) h
def ly{p:Prop}(h:p:=by first|trivial| (simp only[Pr.an,Pr.h,num,fX,true_and,and_true];first|done|omega)| (simp[Pr.an,Pr.h,num,fX];done)| (simp[Pr.an,Pr.h,num,fX];omega)):p:=h
def QU{p:Prop}(h:p:=by first|trivial| (simp only[Pr.an,Pr.h,num,fX,true_and,and_true];first|done|omega)):p:=h
def bP{a b:Int}(h:a=b):AV.c (C.I .u64 a)=AV.c (C.I .u64 b):=by rw[h]
def jb{a b:Int}(h:a=b):AV.c (C.I .i64 a)=AV.c (C.I .i64 b):=by rw[h]
def DR{a b:Int}(h:a=b):AV.c (C.I .u32 a)=AV.c (C.I .u32 b):=by rw[h]
section
variable{P:bI}{tt:TT}
def XN{b:Type}(a:E b) n i(f:i<n):M (Z a) (ay (i*Z a)<|(bl n a).flatten)=a:=by
 induction n generalizing i with
 |zero=>omega
 |succ n d=>
  rw[yS,K5]
  cases i with
  |zero=>simp
  |succ i=>
   rw[(GG:(i+1)*Z a=Z a+i*Z a),<-pY,List.drop_left]
   exact d i G
def XO{b:Type}(a:E b) n:(bl n a).flatten.length=n*Z a:=ax
def K6(a:E aR) n(g:a≠[]):(XP<|n*Z a).map (λi=>a.toArray[i%a.toArray.size]!)=((bl n a).flatten).toArray:=by
 apply Array.ext
 .simp
 .intro i f h2;simp at f;have h:0<Z a:=cR.2 g;have d:i%Z a<Z a:=fN _ h;simp only[Array.getElem_map,Array.getElem_range,List.size_toArray,aiQ];rw[getElem!_pos _ _ (by simpa using d),aiQ];have k:i/Z a<n:=yT (by rw[hJ];exact f);have l:=XN a n (i/Z a) k;have m:i=i/Z a*Z a+i%Z a:=by rw[hJ];exact(ru i<|Z a).symm
  have b:(M (Z a)<|(bl n a).flatten.drop<|i/Z a*Z a)[i%Z a]? =a[i%Z a]? :=by rw[l]
  rw[GV d,tJ,<-m]at b;rw[cO p',cO d]at b;simp only[aq]at b;exact b.symm
def XQ{ops}{i}{o:aX}{d:V}(ho:ops[i]? =ad o)(hg:o.guard=none)(hd:o.dst=ad d){n}(df:d<n){L}{aU}{T}{xs}new(hlen:Z xs*T.n<=140737488355328)
  (h:∀(fW:dm)(f:V->Prop)(σ:Kn)(g:Gh)(W:cx)(a:Act),aJ fW f σ g W a->(∀kx∈ot L o.op,σ kx.1=ad kx.2)->
   ∃(vs:E aR)(l:V)(W1:cx),(execOp a.eval o).run P W= .ok (.value<|.slice (ad ⟨W.heap.size,0,none⟩) (Z xs) l) {W1 with heap:=W.heap.push<|.cells vs.toArray aU (0,0)}/\W1.os=W.os/\W1.tape=W.tape/\W1.output=W.output/\Z vs=l*T.n/\Z xs<=l/\
    ∀i(h:i<Z xs),c6 g.H T xs[i] ((ay (i*T.n) vs).take T.n)):
  lr P n ops i L ((L.pm new<|.vec aU T xs).put d<|.c<|.X new) new (bJ o.op.operands.toList,[.s d,.m new]):=by
 refine⟨ot L o.op,[(.s d,ad<|.v<|.c<|.X new),(.m new,ad<|.b<|.vec aU T xs)],?_,ri L _,DE L d new _ _,eI L _,λk hk=>jG⟩
 intro fW jZ Q f σ g W a K x aS D N
 let ⟨vs,l,W1,q,O,R,S,G,hle,r⟩:=h fW f σ g W a aS D
 unfold wpOp
 simp only[ho,gx,hg,cd]
 refine .inl ?_
 unfold oo
 rw[q]
 simp only[ny,hd]
 have I:d<a.tmps.size:=mm
 let j:Gh:=⟨g.H,λB=>if B=new then .slice (ad ⟨W.heap.size,0,none⟩) (Z xs) l else g.γ B⟩
 have z:fL f g j:=⟨cE.refl _,λB p=>by
  have:B≠new:=λe=>x<|e▸p
  simp[j,this]⟩
 have w:∀o,g.H W.heap.size o=none:=by
  intro o;cases hv:g.H W.heap.size o with
  |none=>rfl
  |some v=>
   have:=AZ W _<|aS.sub _ _ _ hv
   simp at this
 have A:Sub g.H {W1 with heap:=W.heap.push<|.cells vs.toArray aU (0,0)}:=by have:=AY aS.sub<|.cells vs.toArray aU (0,0);exact this
 refine N j _ _<|aS.step (chg:=λ_=>False) (g':=j) ⟨z,λ_ _ _=>rfl,A,ax,λk hk _=>Dy W _ k hk,O,R,S⟩ _ new x nz aS.defers ?_ (λ_ h=>h.elim) ?_ ?_ ?_ ?_
 .intro t ht;have M:d≠t:=sD;simp[gT,kH M]
 .intro t u ht;simp only[aC]at ht;split at ht
  .rename_i e;simp only[Key.s.injEq]at e;simp only[aq,Info.v.injEq]at ht;subst e;subst ht;simp[gT,I,a8,cN,j]
  .split at ht
   .simp at ht
   .simp at ht
 .intro B b ht;simp only[aC,reduceCtorEq,bQ]at ht;split at ht
  .rename_i e;simp only[Key.m.injEq]at e;subst e;simp only[aq,Info.b.injEq]at ht;subst ht;refine⟨.inr ⟨W.heap.size,l,vs,by simp[j],ax,G,hle,hlen,r,.inl aS.below.size,w⟩,.inr ⟨J,λk hk=> .inl ?_⟩⟩;simp only[j,cd,cy,aq]at hk;omega
  .simp at ht
 .intro k y ht;simp only[aC]at ht;split at ht
  .simp only[aq]at ht;subst ht;intro B p;simp[Info.ak,AV.ak,C.ak]at p;exact .inr p
  .split at ht
   .simp only[aq]at ht;subst ht;intro B p;simp[Info.ak,aD.ak]at p
   .simp at ht
 .intro B y ht;simp only[aC,reduceCtorEq,bQ]at ht;split at ht
  .rename_i e;simp only[Key.m.injEq]at e;exact .inr e.symm
  .simp at ht
def aiR{ops}{i}{o:aX}{d:V}(ho:ops[i]? =ad o)(hg:o.guard=none)(hd:o.dst=ad d){n}(df:d<n){L}{aU}{T}{xs}new(hlen:Z xs*T.n<=140737488355328)
  (h:∀(fW:dm)(l:V->Prop)(σ:Kn)(g:Gh)(W:cx)(a:Act),aJ fW l σ g W a->(∀kx∈ot L o.op,σ kx.1=ad kx.2)->
   ∃(vs:E aR)(f:V)(W1:cx),(execOp a.eval o).run P W= .ok (.value<|.slice (ad ⟨W.heap.size,0,none⟩) (Z xs) f) {W1 with heap:=W.heap.push<|.cells vs.toArray aU (0,0)}/\W1.os=W.os/\W1.tape=W.tape/\W1.output=W.output/\Z vs=f*T.n/\Z xs<=f/\
    ∀i(h:i<Z xs),c6 g.H T xs[i] ((ay (i*T.n) vs).take T.n)):
  lr P n ops i L (L.put d<|.c<|.S T xs) new (bJ o.op.operands.toList,[.s d]):=by
 refine⟨ot L o.op,[(.s d,ad<|.v<|.c<|.S T xs)],?_,ri L _,pV L d _,eI L _,λk hk=>jG⟩
 intro fW jZ Q l σ g W a K X aS A R
 let ⟨vs,f,W1,q,U,Y,e3,yU,hle,x⟩:=h fW l σ g W a aS A
 unfold wpOp
 simp only[ho,gx,hg,cd]
 refine .inl ?_
 unfold oo
 rw[q]
 simp only[ny,hd]
 have D:d<a.tmps.size:=mm
 let p:Gh:=⟨λb o=>if b=W.heap.size then vs[o]? else g.H b o,g.γ⟩
 have w:∀o,g.H W.heap.size o=none:=by
  intro o;cases m:g.H W.heap.size o with
  |none=>rfl
  |some v=>
   have:=AZ W _<|aS.sub _ _ _ m
   simp at this
 have B:cE g.H p.H:=by
  intro b o v m;by_cases e:b=W.heap.size
  .subst e;rw[w]at m;cases m
  .simp[p,e,m]
 have r:Sub p.H {W1 with heap:=W.heap.push<|.cells vs.toArray aU (0,0)}:=by
  intro b o v m;by_cases e:b=W.heap.size
  .subst e;simp only[p,cd]at m;simp[World.cell?,m]
  .simp only[p,e,bQ]at m;exact AY aS.sub (.cells vs.toArray aU (0,0)) b o v m
 refine R p _ _<|aS.step (chg:=λ_=>False) (g':=p) ⟨⟨B,λ_ _=>rfl⟩,?_,r,ax,λk hk _=>Dy W _ k hk,U,Y,e3⟩ _ new X nz aS.defers ?_ (λ_ h=>h.elim) ?_ ?_ ?_ ?_
 .intro b o hb;have:b≠W.heap.size:=G;simp[p,this]
 .intro t ht;have I:d≠t:=sD;simp[gT,kH I]
 .intro t u ht;simp only[aC]at ht;split at ht
  .rename_i e;simp only[Key.s.injEq]at e;simp only[aq,Info.v.injEq]at ht;subst e;subst ht;have z:(a.put (ad d)<|.slice (ad ⟨W.heap.size,0,none⟩) (Z xs) f).tmps.getD d undef= .slice (ad ⟨W.heap.size,0,none⟩) (Z xs) f:=by simp[gT,D]
   rw[z];refine⟨_,f,J,hle,hlen,?_⟩;by_cases hx:xs=[]
   .exact .inl hx
   .refine .inr ⟨W.heap.size,0,J,λk hk=>⟨(ay (k*T.n) vs).take T.n,c6.length T _ _<|x k hk,c6.mono B T _ _<|x k hk,λj hj=>?_⟩⟩;have M:(k+1)*T.n<=f*T.n:=et _ G;rw[gy,iG]at M;simp only[gL,DS]at hj;simp only[p,cd,eP,rf,tH];exact cO G
  .simp at ht
 .intro O b ht;simp[aC]at ht
 .intro k y ht;simp only[aC]at ht;split at ht
  .simp only[aq]at ht;subst ht;intro O N;simp[Info.ak,AV.ak,C.ak]at N
  .simp at ht
 .intro O y ht;simp[aC]at ht
def aiS(u:cq P tt=ae){v}{i}{o:aX}{d:V}(ho:v[i]? =ad o)(hg:o.guard=none)(hd:o.dst=ad d){n}(df:d<n){t}{x}(bO:o.op= .makeSlice t x x)
 {Q}{m:V} {k}(hx:Q.ev x=ad (.c<|.I k (m:Int))) {aU}{ti f:TI} (nF:U t tt=ad ti) (hk:ti.kind= .sl aU) (m0:U aU tt=ad f) (T:ET) (pT:f.size=T.n)
  (hz:∀g:Gh,aY g (av T T.dG) (f.zero.map ZV.eY)) (hb:m*f.bytes<=281474976710656) (mr:m*T.n<=140737488355328) (h:V):
  lr P n v i Q ((Q.pm h<|.vec aU T<|bl m T.dG).put d<|.c<|.X h) h (bJ o.op.operands.toList,[.s d,.m h]):=by
 refine XQ ho hg hd df h (by simpa using mr) ?_
 intro F q S g W a w r
 have N:a.eval x= .int k (m:Int):=dq w Q x _ hx<|λO cc=>r O QV
 have D:=(eK u nF).kind
 rw[hk]at D
 let ⟨inf,B,C,H,z,y,xc⟩:=(eK u m0).info
 have b:Z (f.zero.map ZV.eY)=T.n:=c6.length T _ _<|AK T _ _<|hz g
 have K:z.cells=(f.zero.map ZV.eY).toArray:=DD
 have L:(f.zero.map ZV.eY)≠[]:=by intro e;rw[e]at b;have:=T.AH;simp at b;omega
 have R:m*1<=m*T.n:=jk m T.AH
 have A:(inf.bytes:Int)*(m:Int)<=281474976710656:=by
  rw[H];have:(f.bytes:Int)*(m:Int)=((m*f.bytes:V):Int):=by rw[hJ];simp
  rw[this];omega
 have l:=run_make (P:=P) W t aU inf z D B y k k m m G G A G
 refine⟨(bl m<|f.zero.map ZV.eY).flatten,m,W,?_,J,J,J,?_,ax,?_⟩
 .rw[execOp,bO];have p:madeCells z.cells (m*inf.size)=((bl m<|f.zero.map ZV.eY).flatten).toArray:=by rw[C,pT,K,<-b,<-K6 _ m L];rfl
  simp only[cr]at l;rw[p]at l;simp only[N,db,l,dx,fY];rfl
 .rw[XO,b]
 .intro j M;simp only[fY]at M;have:=XN (f.zero.map ZV.eY) m j M;rw[b]at this;rw[this,List.getElem_replicate];exact AK T _ _<|hz g
end
section
variable{P:bI}{tt:TT}{n:V}{Q:gM}{st:St}
def yV(b:V)(T:ET)(xs:E T.den):C->C
 | .X a=>if a=b then .S T xs else .X a
 | .Y a m i off=>if a=b then .any else .Y a m i off
 |d=>d
def Ba(a:V)(T:ET)(xs:E T.den):E C->E C
 |[]=>[]
 |b::d=>yV a T xs b::Ba a T xs d
def G6(a:V)(T:ET)(xs:E T.den):E (Bool×E C)->E (Bool×E C)
 |[]=>[]
 | (b,cs)::d=>(b,Ba a T xs cs)::G6 a T xs d
def G7(b:V)(T:ET)(xs:E T.den):AV->AV
 | .c x=> .c<|yV b T xs x
 | .a cs=> .a<|Ba b T xs cs
 | .t d=> .t<|G6 b T xs d
def xh(a:V)(T:ET)(xs:E T.den):E (V×AV)->E (V×AV)
 |[]=>[]
 | (t,v)::b=>(t,G7 a T xs v)::xh a T xs b
def QW(a:V)(T:ET)(xs:E T.den):aD->aD
 | .box d f cs=> .box d f<|Ba a T xs cs
 |b=>b
def tP(a:V)(T:ET)(xs:E T.den):E (V×aD)->E (V×aD)
 |[]=>[]
 | (d,b)::f=>if d=a then tP a T xs f else(d,QW a T xs b)::tP a T xs f
def XR(a:V)(T:ET)(xs:E T.den)(t:V):∀l,U t (xh a T xs l)=(U t l).map (G7 a T xs)
 |[]=>rfl
 | (k,v)::b=>by
  simp only[xh,U];split
  .rfl
  .exact XR a T xs t b
def QX(b:V)(T:ET)(xs:E T.den)(t:V):∀l,U t (tP b T xs l)=if t=b then none else(U t l).map (QW b T xs)
 |[]=>by simp[tP,U]
 | (k,v)::d=>by
  simp only[tP,U];split
  .rename_i a;subst a;rw[QX k T xs t d];split
   .rfl
   .rename_i h;rw[y (λa=>h a.symm)]
  .rename_i a;simp only[U];split
   .rename_i f;subst f;rw[y a];rfl
   .exact QX b T xs t d
def XS id T xs b:∀d∈(yV id T xs b).ak,d∈b.ak:=by
 intro d a;cases b with
 |X k=>simp only[yV]at a;split at a;simp[C.ak]at a;exact a
 |Y k m i off=>simp only[yV]at a;split at a;simp[C.ak]at a;exact a
 |_=>exact a
def K7(d:V)(T:ET)(xs:E T.den):∀(b:E C),∀a∈cp (Ba d T xs b),a∈cp b
 |[],a,h=>h
 |f::b,a,h=>by simp only[Ba,cp,be]at h⊢;exact h.imp (XS d T xs f a)<|K7 d T xs b a
def XT(f:V)(T:ET)(xs:E T.den):∀(d:E (Bool×E C)),∀a∈eG (G6 f T xs d),a∈eG d
 |[],a,h=>h
 | (b,g)::d,a,h=>by simp only[G6,eG,be]at h⊢;exact h.imp (K7 f T xs g a)<|XT f T xs d a
def aiT id T xs v:∀b∈(G7 id T xs v).ak,b∈v.ak:=by
 cases v with
 |c x=>exact XS id T xs x
 |a cs=>exact K7 id T xs cs
 |t d=>exact XT id T xs d
section
variable{id:V}{T:ET}{xs:E T.den}{known:V->Prop}{g g':Gh}
def QY(b:fL known g g')(f:lK (c6 g'.H T) T.n g'.H xs (g.γ id)):∀{a:C}{v:aR},(∀l∈a.ak,known l)->cN g a v->cN g' (yV id T xs a) v:=by
 intro a v d h;cases a with
 |X k=>
  simp only[yV]
  split
  .rename_i e;subst e;simp only[cN]at h;subst h;exact f
  .exact cN.mono b d h
 |Y k m i off=>
  simp only[yV]
  split
  .trivial
  .exact cN.mono b d h
 |_=>exact cN.mono b d h
def K8(f:fL known g g')(i:lK (c6 g'.H T) T.n g'.H xs (g.γ id)):∀{b:E C}{vs:E aR},(∀a∈cp b,known a)->aY g b vs->aY g' (Ba id T xs b) vs
 |[],_,_,h=>h
 |_::_,_,k,h=>by let ⟨v,l,m,o,h2⟩:=h;exact⟨v,l,m,QY f i (λa d=>k a<|by simp[cp,d]) o,K8 f i (λa d=>k a<|by simp[cp,d]) h2⟩
def XU(l:fL known g g')(m:lK (c6 g'.H T) T.n g'.H xs (g.γ id)):∀{o:E (Bool×E C)}{vs:E aR},(∀a∈eG o,known a)->du g o vs->du g' (G6 id T xs o) vs
 |[],_,_,h=>h
 | (b,k)::_,_,s,h=>by
  let ⟨v,t,p,d,h2⟩:=h;refine⟨v,t,p,?_,XU l m (λa f=>s a<|by simp[eG,f]) h2⟩;have i:∀a∈cp k,known a:=λa f=>s a (by simp[eG,f])
  match b,k,d with
  |true,k,d=>let ⟨vs,p,h⟩:=d;exact⟨vs,p,K8 l m i h⟩
  |false,[k],d=>exact QY l m (λa f=>i a<|by simp[cp,f]) d
def aiU(b:fL known g g')(d:lK (c6 g'.H T) T.n g'.H xs (g.γ id)){x}{v}(f:∀i∈x.ak,known i)(h:a8 g x v):a8 g' (G7 id T xs x) v:=by
 cases x with
 |c y=>exact QY b d f h
 |a cs=>let ⟨vs,e,h⟩:=h;exact⟨vs,e,K8 b d f h⟩
 |t k=>let ⟨vs,e,h⟩:=h;exact⟨vs,e,XU b d f h⟩
end
def K9 d{aU}{T}{xs}{sl}{mem}{nx}{gd}(hl:U d mem=ad (.vec aU T xs)):Wk ⟨sl,mem,nx,gd⟩ ⟨xh d T xs sl,tP d T xs mem,nx,gd⟩:=by
 intro F m5 g W a h;have K:St.kn ⟨sl,mem,nx,gd⟩ (.m d)=ad (.b<|.vec aU T xs):=A';have S:=h.cA d _ K;have main:∀w:Gh,fL (kb ⟨sl,mem,nx,gd⟩) g w->lK (c6 w.H T) T.n w.H xs (g.γ d)->Sub w.H W->(∀b o,b<F.w0.heap.size->¬F.own b->w.H b o=F.H0 b o)->(∀b o,cy (g.γ d)≠ad b->w.H b o=g.H b o)->w.γ=g.γ->
   aJ F (kb ⟨xh d T xs sl,tP d T xs mem,nx,gd⟩) (St.kn ⟨xh d T xs sl,tP d T xs mem,nx,gd⟩) w W a:=by
  intro w u hX V vK Y hγ
  have hS:∀t q,St.kn ⟨xh d T xs sl,tP d T xs mem,nx,gd⟩ (.s t)=ad (.v q)->∃v,St.kn ⟨sl,mem,nx,gd⟩ (.s t)=ad (.v v)/\q=G7 d T xs v:=by intro t q e;simp only[St.kn,XR,Option.map_map,bS]at e;let ⟨v,hv,he⟩:=e;cases he;exact⟨v,p7,J⟩
  have hM:∀j l,St.kn ⟨xh d T xs sl,tP d T xs mem,nx,gd⟩ (.m j)=ad (.b l)->∃b,St.kn ⟨sl,mem,nx,gd⟩ (.m j)=ad (.b b)/\l=QW d T xs b/\j≠d:=by
   intro j l e;simp only[St.kn,QX]at e;split at e
   .simp at e
   .rename_i N;simp only[Option.map_map,bS]at e;let ⟨b,B,he⟩:=e;cases he;exact⟨b,by simp[St.kn,B],J,N⟩
  refine⟨h.size,h.defers,?_,?_,?_,?_,?_,V,h.below,h.le.trans u.H,vK,λd K=>⟨(h.fv d K).1,by rw[hγ];exact(h.fv d K).2⟩⟩
  .intro t q e;obtain⟨v,hv,rfl⟩:=hS t q e;exact aiU u hX (λj L=>h.ak _ _ hv j L)<|h.dv t v hv
  .intro j l e;obtain⟨b,B,rfl,N⟩:=hM j l e;have r:=h.cA j b B;have p:∀k,cy (g.γ j)=ad k->cy (g.γ d)≠ad k:=λk O y=>N (h.inj j d b _ k B K O y)
   cases b with
   |box E' bz cs=>
    let ⟨k,vs,rest,e1,C,z,A,D,e6⟩:=r
    exact⟨k,vs,rest,qe,C,K8 u hX (λi X=>h.ak _ _ B i X) z,A,λo=>by rw[Y k o (p k e1)];exact D o,by rw[hγ];exact e6⟩
   |vec E' T' ys=>
    rcases r with⟨e1,C⟩|⟨k,I,vs,e1,C,z,A,La,D,e6,e7⟩
    .exact .inl ⟨qe,C⟩
    .exact .inr ⟨k,I,vs,qe,C,z,A,La,λi X=>c6.mono u.H _ _ _<|D i X,e6,λo=>by rw[Y k o (p k<|by rw[e1];rfl)];exact e7 o⟩
   |dI f first caps=>
    let ⟨us,ws,e1,C,z⟩:=r
    exact⟨us,ws,qe,du.mono u (λi X=>h.ak _ _ B i<|eH _ X) C,du.mono u (λi X=>h.ak _ _ B i<|gI _ X) z⟩
   |fz E' cs=>
    let ⟨k,vs,rest,e1,C,z,A,D⟩:=r
    exact⟨k,vs,rest,qe,C,aY.mono u (λi X=>h.ak _ _ B i X) z,A,λo=>by rw[Y k o (p k e1)];exact D o⟩
   |mp ka va ys=>
    let ⟨k,es,e1,C,z,A,D⟩:=r
    exact⟨k,es,qe,C,iU.mono u (λi X=>h.ak _ _ B i X) z,A,λo=>by rw[Y k o (p k<|by rw[e1];rfl)];exact D o⟩
   |it m n seen=>
    let ⟨k,b,e1,e0,C,A,D⟩:=r
    exact⟨k,b,qe,by rw[hγ];exact e0,C,A,λo=>by rw[Y k o (p k<|by rw[e1];rfl)];exact D o⟩
  .intro i j b l k e e' O y;let ⟨c,hc,_⟩:=hM i b e;let ⟨c',DT,_⟩:=hM j l e';rw[hγ]at O y;exact h.inj i j c c' k hc DT O y
  .intro k x e j L;cases k with
   |s t=>
    cases x with
    |v q=>obtain⟨v,hv,rfl⟩:=hS t q e;exact h.ak _ _ hv j<|aiT d T xs v j L
    |b l=>simp only[St.kn,bS]at e;let ⟨_,_,he⟩:=e;cases he
   |m i=>
    cases x with
    |v q=>simp only[St.kn,bS]at e;let ⟨_,_,he⟩:=e;cases he
    |b l=>
     obtain⟨b,B,rfl,_⟩:=hM i l e
     refine h.ak _ _ B j ?_
     cases b with
     |box E' bz cs=>exact K7 d T xs cs j L
     |vec E' T' ys=>exact L
     |dI f first caps=>exact L
     |fz E' cs=>exact L
     |mp ka va ys=>exact L
     |it m n seen=>exact L
  .intro i x e;cases x with
   |v q=>simp only[St.kn,bS]at e;let ⟨_,_,he⟩:=e;cases he
   |b l=>let ⟨b,B,_⟩:=hM i l e;exact h.dn _ _ B
 rcases S with⟨hγ,hx⟩|⟨b,I,vs,hγ,hh,yU,u,hlen,r,hN,hz⟩
 .refine⟨g,main g ⟨cE.refl _,λ_ _=>rfl⟩ ?_ h.sub h.fresh (λ_ _ _=>rfl) J⟩;subst hx;exact⟨none,0,hγ,ax,ax,.inl J⟩
 .let w:Gh:=⟨λl o=>if l=b then(if o<Z xs*T.n then vs[o]? else none)else g.H l o,g.γ⟩;have M:cE g.H w.H:=by
   intro l o v hv;by_cases e:l=b
   .subst e;rw[hz]at hv;cases hv
   .simp[w,e,hv]
  refine⟨w,main w ⟨M,λ_ _=>rfl⟩ ?_ ?_ ?_ ?_ J⟩
  .refine⟨ad ⟨b,0,none⟩,I,hγ,u,hlen,?_⟩;by_cases hx:xs=[]
   .exact .inl hx
   .refine .inr ⟨b,0,J,λk O=>⟨(ay (k*T.n) vs).take T.n,c6.length T _ _<|r k O,c6.mono M T _ _<|r k O,λj L=>?_⟩⟩;have Bb:(k+1)*T.n<=I*T.n:=et _ G;have Lb:(k+1)*T.n<=Z xs*T.n:=et _ G;rw[gy,iG]at Bb Lb;simp only[gL,DS]at L;have jh:k*T.n+j<Z xs*T.n:=G;simp only[w,cd,eP,rf,tH,jh];exact cO G
  .intro l o v hv;by_cases e:l=b
   .subst e;simp only[w,cd]at hv;split at hv
    .simp[World.cell?,hh,hv]
    .cases hv
   .simp only[w,e,bQ]at hv;exact h.sub l o v hv
  .intro l o R Bc;have:l≠b:=by
    intro e;subst e;rcases hN with h1|h1
    .omega
    .exact Bc h1
   simp only[w,this,bQ];exact h.fresh l o R Bc
  .intro l o R;have:l≠b:=λe=>R (by rw[hγ,e];rfl)
   simp[w,this]
def da id{k}{T}{xs}{d}{f}{mem}{g}{i}(l:U id mem=ad (.vec k T xs)){b}{a}(m:xh id T xs f=b)(o:tP id T xs mem=a)
  (h:TR P n d ⟨b,a,g,i⟩ Q):TR P n d ⟨f,mem,g,i⟩ Q:=by
 subst m o
 exact eR (K9 id l) h
def vL t{T}{xs}{d}{b}{mem}{f}{i}(hl:U t b=ad (.c<|.S T xs))(h:Z xs*T.n<=140737488355328->TR P n d ⟨b,mem,f,i⟩ Q):TR P n d ⟨b,mem,f,i⟩ Q:=by intro F l g W a k;have m:cN g (.S T xs) (a.tmps.getD t undef):=k.dv t (.c<|.S T xs) A';let ⟨_,_,_,_,h2,_⟩:=m;exact h h2 F l g W a k
def aiV{b}{a}{f i}{d t}{x}{ty}{pos}{o}{os}{p}{mem}{u}{w}{ks}{Q:St->Prop}(B:cq P tt=ae)
 T (m:V) {k}{v}(hx:St.ev ⟨p,mem,u,w⟩ x=ad (.c<|.I k v)) (hv:v=(m:Int)) {H}{ti l}(L:U t tt=ad ti) (hk:ti.kind= .sl H) (W:U H tt=ad l) (pT:l.size=T.n)
  (hz:∀g:Gh,aY g (av T T.dG) (l.zero.map ZV.eY)) (hb:m*l.bytes<=281474976710656) (mr:m*T.n<=140737488355328)
  (h:RG P n b a f (i+1) os ⟨(d,.c<|.X<|1000000*f+1000*i)::p,(1000000*f+1000*i,.vec H T<|bl m T.dG)::mem,u,w⟩ (g8 a ks (bJ [x,x],[.s d,.m<|1000000*f+1000*i])) Q) (df:dt d n=ae:=by rfl):
  RG P n b a f i (⟨ad d,.makeSlice t x x,ty,pos,o,none⟩::os) ⟨p,mem,u,w⟩ ks Q:=by
 subst hv
 exact nJ (λC=>aiS B C J J (cP df) J hx L hk W T pT hz hb mr _)<|nK h
def aiW{o}{a}{H i}{t}{x l}{ty}{pos}{p}{L}{b}{mem}{d}{f}{W}{Q:St->Prop}(s:cq P tt=ae)
 {g m k}{aU}{T}{xs}{vy}(hx:St.ev ⟨b,mem,d,f⟩ x=ad (.c<|.Y g m k 0)) (hl:U g mem=ad (.vec aU T xs)) (hy:St.ev ⟨b,mem,d,f⟩ l=ad vy) (hm:T.n=m) {ag}(u:ou tt t=ad (m,ag)) (cz:T.den) (v:kI vy=ad (av T cz)) (hk:k<Z xs)
  (h:RG P n o a H (i+1) L ⟨b,(g,.vec aU T<|xs.set k cz)::mem,d,f⟩ (g8 a W (bJ [x,l]++cY [g],[.m g])) Q):
  RG P n o a H i (⟨none,.store t x l,ty,pos,p,none⟩::L) ⟨b,mem,d,f⟩ W Q:=by
 refine nJ (λC=>⟨_,_,XB s C J J J hx hy hl hm u v hk _,?_,KU ⟨b,mem,d,f⟩ g _,?_,λk hk=>jG⟩)<|nK h
 .intro w B;rcases be.1 B with h|h
  .rcases be.1 h with h|h
   .exact dX _ x w h
   .exact dX _ l w h
  .exact lp _ [g] w h
 .intro k hk;simp only[dw,fF,be]at hk;rcases hk with(h|h)|h
  .exact eH _<|eI ⟨b,mem,d,f⟩ [x,l] k tL
  .exact eH _<|eI ⟨b,mem,d,f⟩ [x,l] k vE
  .exact gI _<|kf ⟨b,mem,d,f⟩ [g] k h
end
section
variable{P:bI}{tt:TT}{n:V}
def Lc:∀(T:ET)(x:T.den),Z (av T x)=T.n
 | .int _,_=>rfl
 | .bool,_=>rfl
 | .z,_=>rfl
 | .q,_=>rfl
 | .sl _,_=>rfl
 | .pr a B,x=>by simp[av,Lc a,Lc B]
def XV{g:Gh}(T:ET):∀(xs:E T.den)(vs:E aR),aY g (xs.flatMap<|av T) vs->∀i(h:i<Z xs),c6 g.H T xs[i] ((ay (i*T.n) vs).take T.n)
 |[],_,_,i,h=>by simp at h
 |x::xs,vs,d,i,h=>by
  rw[lq]at d;obtain⟨a,b,rfl,f,k⟩:=Gv d;have l:Z a=T.n:=by rw[f.length,Lc]
  cases i with
  |zero=>
   simp only[qf,qh,vw]
   rw[xa G,iY G]
   exact AK T x a f
  |succ i=>
   simp only[AW]
   rw[show(i+1)*T.n=Z a+i*T.n by rw[gy,iG];omega,<-pY,List.drop_left]
   exact XV T xs b k i eh
def vM(sz:V):V->V->E (V×V)
 |_,0=>[]
 |k,m+1=>(k*sz,sz)::vM sz (k+1) m
def Ld(sz:V):∀(m k i:V)(x:V×V),(vM sz k m)[i]? =ad x->x=((k+i)*sz,sz)
 |0,_,_,_,h=>by simp[vM]at h
 |m+1,k,0,x,h=>by simp[vM]at h;simp[<-h]
 |m+1,k,i+1,x,h=>by simp only[vM,vu]at h;have:=Ld sz m (k+1) i x h;rw[this,(G:k+1+i=k+(i+1))]
def DU(l:E C):V->E C
 |0=>[]
 |m+1=>l++DU l m
def Le{g:Gh}{l:E C}{vs:E aR}(h:aY g l vs):∀m,aY g (DU l m) ((bl m vs).flatten)
 |0=>rfl
 |m+1=>by rw[yS,K5];exact aY.append h<|Le h m
def XW{l:E C}(h:cp l=[]):∀m,cp (DU l m)=[]
 |0=>rfl
 |m+1=>by
  have:=XW h m;apply QZ.2;intro d b;rcases Dw _ _ d b with a|a
  .rw[h]at a;cases a
  .rw[this]at a;cases a
def vN(tt:TT)(g:St)(t b:V)(a:E (V×eQ)):au (V×TI×E C):=match U t tt with
 |some h=>(match h.kind with
  | .sl f=>(match U f tt with
   |some d=>(match A1 (vM d.size 0 b) g (DU (d.zero.map ZV.pR) b) a with
    |some cs=>ad (f,d,cs)
    |none=>none)
   |none=>none)
  |_=>none)
 |none=>none
def XX(b7:cq P tt=ae){fW}{u:V->Prop}{σ}{g}{W}{a}(L:aJ fW u σ g W a){st}{o}{t b}{d}(bO:o.op= .buildSlice t b d){aU}{ei}{T}{xs}(hT:ei.size=T.n)(Q:Z xs=b)(aiX:b*T.n<=16777216)
  (l:vN tt st t b d.toList=ad (aU,ei,xs.flatMap<|av T)) (fE:∀kx∈ot st o.op,σ kx.1=ad kx.2):
  ∃(vs:E aR)(v:V)(W1:cx),(execOp a.eval o).run P W= .ok (.value<|.slice (ad ⟨W.heap.size,0,none⟩) (Z xs) v) {W1 with heap:=W.heap.push<|.cells vs.toArray aU (0,0)}/\W1.os=W.os/\W1.tape=W.tape/\W1.output=W.output/\Z vs=v*T.n/\Z xs<=v/\
    ∀i(h:i<Z xs),c6 g.H T xs[i] ((ay (i*T.n) vs).take T.n):=by
 unfold vN at l
 split at l
 .rename_i ti D;split at l
  .rename_i S hk;split at l
   .rename_i k m0;split at l
    .rename_i cs G;simp only[aq,bK]at l;obtain⟨rfl,rfl,rfl⟩:=l;have U:=(eK b7 D).kind;rw[hk]at U;let ⟨inf,vD,X,_,z,hz,xc⟩:=(eK b7 m0).info;have c:z.cells=(k.zero.map ZV.eY).toArray:=DD;let ⟨us,j,iZ,hu3,hu4⟩:=GX L st (vM k.size 0 b) (λi=>ad (i*k.size,k.size)) (λi x h=>by rw[Ld _ _ _ _ _ h];simp) d.toList _ _ _ G (Le (yK g k.zero) b) (λp hp kx I=>fE kx<|by rw[bO];refine iV.2 ⟨p.2,?_,I⟩;simp only[Op.operands,kF];exact⟨p,hp,J⟩) Q1;have w:=iZ.length;have M:∀q:E T.den,Z (q.flatMap<|av T)=Z q*T.n:=by
      intro q;induction q with
      |nil=>simp
      |cons bN q ih=>simp[Lc,ih,gy,Lf]
     rw[M]at w;refine⟨us,Z xs,W,?_,J,J,J,w,aT _,XV T xs us iZ⟩;have B:execOp a.eval o=(do pure (.value<|<-G8 t b (d.map λ(i,x)=>(i,a.eval x)))):=vC;have r:(d.map λ(i,x)=>(i,a.eval x)).toList=d.toList.map λp=>(p.1,a.eval p.2):=ax
     have C:Z (k.zero.map ZV.eY)=k.size:=Q2;have Y:0<k.size:=by rw[hT];exact T.AH
     have N:(zeroValue S).run P W= .ok z W:=QN;have m:((XP<|b*k.size).map<|λi=>(k.zero.map ZV.eY).toArray[i%(k.zero.map ZV.eY).toArray.size]!)=((bl b<|k.zero.map ZV.eY).flatten).toArray:=by have:=K6 (k.zero.map ZV.eY) b (by intro e;rw[e]at C;simp at C;omega);rw[C]at this;exact this
     have hb:(G8 t b<|d.map λ(i,x)=>(i,a.eval x)).run P W= .ok (.slice (ad ⟨W.heap.size,0,none⟩) b b) {W with heap:=W.heap.push<|.cells us.toArray S (0,0)}:=by
      unfold G8;rw[db,run_underlying U];simp only[dx];rw[db,run_sizeOf vD];simp only[dx,X];rw[y (by rw[hT];omega)];by_cases A:b*k.size=0
      .have K:b=0:=by
        rcases Nat.mul_eq_zero.1 A with h|h
        .exact h
        .omega
       subst K;have O:us=[]:=gK (by rw[w,Q];simp);subst O;have s:=j;simp only[DV,List.flatten_nil]at s;have R:∀f:V->aR,(XP 0).map f= #[]:=λf=>by simp
       simp only[qf,cd,pure_bind,R,r,s];rfl
      .rw[y A];simp only[pure_bind,db,N,dx,c,m,r,j];rfl
     rw[B,db,hb,Q];rfl
    .simp at l
   .simp at l
  .simp at l
 .simp at l
def aiY{k}{f}{H i}{d t g}{a}{ty}{pos}{o}{L}{p}{mem}{u}{v}{W}{Q:St->Prop}(w:cq P tt=ae)
 T xs {aU}{ei}(hv:vN tt ⟨p,mem,u,v⟩ t g a.toList=ad (aU,ei,xs.flatMap<|av T)) (hT:ei.size=T.n) (l:Z xs=g) (b:dU (g*T.n) 16777216=ae)
  (h:RG P n k f H (i+1) L ⟨(d,.c<|.S T xs)::p,mem,u,v⟩ (g8 f W (bJ (Op.buildSlice t g a).operands.toList,[.s d])) Q) (x:dt d n=ae:=by rfl):
  RG P n k f H i (⟨ad d,.buildSlice t g a,ty,pos,o,none⟩::L) ⟨p,mem,u,v⟩ W Q:=
 nJ (λC=>aiR C J J (cP x) _ (by have:=cP b;rw[l];omega)<|λ_ _ _ _ _ _ m B=>XX w m J hT l (cP b) hv B) (nK h)
def aiZ{k}{f}{l i}{d t g}{a}{ty}{pos}{u}{L}{v}{mem}{w}{x}{W}{Q:St->Prop}(B:cq P tt=ae)
 T xs {aU}{ei}(hv:vN tt ⟨v,mem,w,x⟩ t g a.toList=ad (aU,ei,xs.flatMap<|av T)) (hT:ei.size=T.n) (o:Z xs=g) (b:dU (g*T.n) 16777216=ae)
  (h:RG P n k f l (i+1) L ⟨(d,.c<|.X<|1000000*l+1000*i)::v,(1000000*l+1000*i,.vec aU T xs)::mem,w,x⟩ (g8 f W (bJ (Op.buildSlice t g a).operands.toList,[.s d,.m<|1000000*l+1000*i])) Q) (H:dt d n=ae:=by rfl):
  RG P n k f l i (⟨ad d,.buildSlice t g a,ty,pos,u,none⟩::L) ⟨v,mem,w,x⟩ W Q:=
 nJ (λK=>XQ K J J (cP H) _ (by have:=cP b;rw[o];omega)<|λ_ _ _ _ _ _ p C=>XX B p J hT o (cP b) hv C) (nK h)
end
section
variable{P:bI}{tt:TT}{n:V}
def XY{g}{T}{f}{v}(h:cN g (.S T f) v):
  ∃d:E aR,(∀W:cx,Sub g.H W->(yW T.n (Z f) v).run P W= .ok d.toArray W)/\Z d=Z f*T.n/\(∀i(h:i<Z f),c6 g.H T f[i] ((ay (i*T.n) d).take T.n))/\∀u∈d,nE u=ae:=by
 obtain⟨a,y,rfl,J,M,p⟩:=h
 by_cases r:f=[]
 .subst r;refine⟨[],λW _=>?_,ax,ax,ax⟩;cases a with
  |none=>simp[yW,pure]
  |some a=>simp[yW,loadCells,loadCellsFrom,pure]
 .rcases p with p|⟨b,off,rfl,p⟩
  .exact absurd p r
  .let d:=(cw<|Z f*T.n).map λk=>(g.H b<|off+k).getD undef
   have s:Z d=Z f*T.n:=by simp[d]
   have l:∀i(C:i<Z f),∃m,Z m=T.n/\c6 g.H T f[i] m/\(ay (i*T.n) d).take T.n=m/\∀j(K:j<Z m),g.H b (off+(i*T.n+j))=ad m[j]:=by
    intro i C;let ⟨m,hl,t,hc⟩:=p i C;have L:(i+1)*T.n<=Z f*T.n:=et _ G;rw[gy,iG]at L;refine⟨m,hl,t,?_,λj K=>by rw[<-q'];exact hc j K⟩;apply tQ
    .simp[d];omega
    .intro j z Q;simp only[rf,tH,d,Bd,Lg];rw[<-q',hc j Q];rfl
   have o:∀k(X:k<Z d),∃v,g.H b (off+k)=ad v/\d[k]=v/\nE v=ae:=by
    intro k X;have w:=T.AH;have c:k<Z f*T.n:=G;have A:k/T.n<Z f:=yT (by rw[hJ];exact c);have N:k%T.n<T.n:=fN _ w;let ⟨m,hl,t,x,hc⟩:=l (k/T.n) A;have e:k/T.n*T.n+k%T.n=k:=by rw[hJ];exact ru k T.n
    have:=hc (k%T.n) G;rw[e]at this;refine⟨_,this,?_,?_⟩
    .simp only[d,Bd,Lg,this,rv]
    .exact(AJ (g:=g) T _ _ t).one (Dz T _) _<|tR _
   refine⟨d,λW B=>?_,s,λi C=>?_,λu D=>?_⟩
   .simp only[yW,loadCells];have:=run_loadCellsFrom (P:=P) (W:=W) b (Z f*T.n) 0 off d #[] s (λj K=>by let ⟨v,F,q,_⟩:=o j K;rw[jv,B _ _ _ F,q]);simpa using this
   .let ⟨m,hl,t,x,_⟩:=l i C;rw[x];exact t
   .obtain⟨k,X,rfl⟩:=Lh D;let ⟨v,_,q,I⟩:=o k X;rw[q];exact I
def ai0{W}{t v ty w H}{d:TypeInfo}(k:P.underlying t=ad (.slice w))(l:P.underlying v=ad (.slice H))(L:P.info? w=ad d){b a f}{o}{m}(Q:(Builtin.lenOf o).run P W= .ok m W)
 {g vs}{x}(p:(yW d.size m o).run P W= .ok g.toArray W) (T:W.heap[b]? =ad (.cells vs.toArray x (0,0))) (h:∀u∈g,nE u=ae) (s:a+m<=f) (B:a*d.size+Z g<=Z vs):
  (xi #[t,v] ty #[.slice (ad ⟨b,0,none⟩) a f,o]).run P W= .ok (.slice (ad ⟨b,0,none⟩) (a+m) f) (iH W b (cF vs g<|a*d.size) x):=by
 have i:=yH (P:=P) b g W vs (a*d.size) 0 T G h
 simp only[jv]at i
 unfold xi
 simp only[tE,mX,vu]
 rw[db,run_underlying k]
 simp only[dx]
 rw[db,run_sizeOf L]
 simp only[dx]
 rw[db,run_underlying l]
 simp only[dx,pure_bind,iF,bQ,DW,cd]
 rw[db,Q]
 simp only[dx,s,cd]
 rw[db,p]
 simp only[dx,lO,eP]
 rw[db,i]
 rfl
def G9(d:V->Prop)(g:Gh)(W:cx)(f:dH)(T:ET)(xs:E T.den)(v:aR):Prop:=
 (v= .slice none 0 0/\xs=[])\/∃b a,∃vs:E aR,v= .slice (ad ⟨b,0,none⟩) (Z xs) a/\W.heap[b]? =ad (.cells vs.toArray f (0,0))/\
   Z vs=a*T.n/\Z xs<=a/\Z xs*T.n<=140737488355328/\(∀i(h:i<Z xs),c6 g.H T xs[i] ((ay (i*T.n) vs).take T.n))/\d b/\∀o,g.H b o=none
def XZ{a:Type}(vs:E a) n i m(h:i<m):M n ((M (m*n) vs).drop<|i*n)=(ay (i*n) vs).take n:=by have b:(i+1)*n<=m*n:=et _ h;rw[gy,iG]at b;rw[List.drop_take,List.take_take];congr 1;omega
def ai1{b:Type}(a vs:E b) n m i(d:Z a=m*n)(h:m<=i):M n (ay (i*n)<|a++vs)=(ay ((i-m)*n) vs).take n:=by have f:m*n<=i*n:=et _ h;rw[List.drop_append,tK G,tI,d,Nat.sub_mul]
def X0{b:Type}(a vs:E b) n m i(f:Z a=m*n)(h:i<m):M n (ay (i*n)<|a++vs)=(ay (i*n) a).take n:=by have d:(i+1)*n<=m*n:=et _ h;rw[gy,iG]at d;rw[AX G,xa bX]
def X2{H}{T}{xs a}{b d rest}(f:Z b=Z xs*T.n)(g:Z d=Z a*T.n)(k:∀i(h:i<Z xs),c6 H T xs[i] ((ay (i*T.n) b).take T.n))(l:∀i(h:i<Z a),c6 H T a[i] ((ay (i*T.n) d).take T.n)):
  ∀i(h:i<Z (xs++a)),c6 H T (xs++a)[i] (M T.n<|ay (i*T.n)<|b++d++rest):=by
 intro i m
 rw[List.getElem_append]
 split
 .rename_i h;rw[lP,X0 b _ T.n (Z xs) i f h];exact k i h
 .rename_i h;simp only[iX]at m;rw[lP,ai1 b _ T.n (Z xs) i f G,X0 d _ T.n (Z a) _ g G];exact l _ G
def ai2{Be:V->Prop}{g}{W}(p:Sub g.H W){L E2 t1 t2 ty}{T}{xs m}{v bN}{f:TypeInfo}{fw}(DX:P.underlying t1=ad (.slice L))(iZ:P.underlying t2=ad (.slice E2))(Q:P.info? L=ad f)(hz:f.zero=ad fw)(tT:fw.cells.size=f.size)(hT:f.size=T.n)
  (hv:G9 Be g W L T xs v) (hy:cN g (.S T m) bN) (hb:((Z xs+Z m)+(Z xs+Z m)/4+192)*f.bytes<=281474976710656) (mr:(Z xs+Z m)*T.n<=140737488355328) (hN:Be W.heap.size):
  ∃v' s,(xi #[t1,t2] ty #[v,bN]).run P W= .ok v' s/\G9 Be g s L T (xs++m) v'/\W.heap.size<=s.heap.size/\(∀k,k<W.heap.size->cy v≠ad k->s.heap[k]? =W.heap[k]?)/\s.os=W.os/\s.tape=W.tape/\s.output=W.output/\Sub g.H s/\(∀k,cy v'=ad k->W.heap.size<=k\/cy v=ad k):=by
 let ⟨us,r,w,I,O⟩:=XY (P:=P) hy
 have x:Sub g.H W.drew:=p
 have X:=r W p
 have R:=r W.drew x
 have c:∀o,g.H W.heap.size o=none:=by
  intro o;cases hv:g.H W.heap.size o with
  |none=>rfl
  |some v=>
   have:=AZ W _<|p _ _ _ hv
   simp at this
 have B:∀w':cx,(Builtin.lenOf bN).run P w'= .ok (Z m) w':=by obtain⟨a,C,rfl,_⟩:=hy;intro w';rfl
 have U:=T.AH
 have K:∀(base:au Addr)(d:V)(l:E aR),v= .slice base (Z xs) d->(yW f.size (Z xs)<|.slice base (Z xs) d).run P W.drew= .ok l.toArray W.drew->Z l=Z xs*T.n->(∀i(h:i<Z xs),c6 g.H T xs[i] ((ay (i*T.n) l).take T.n))->d<Z xs+Z m->
   ∃v' s,(xi #[t1,t2] ty #[v,bN]).run P W= .ok v' s/\G9 Be g s L T (xs++m) v'/\W.heap.size<=s.heap.size/\(∀k,k<W.heap.size->cy v≠ad k->s.heap[k]? =W.heap[k]?)/\s.os=W.os/\s.tape=W.tape/\s.output=W.output/\Sub g.H s/\(∀k,cy v'=ad k->W.heap.size<=k\/cy v=ad k):=by
  intro base d l hv Y G' hor jh
  subst hv
  have yX:Src P f.size t2 bN (Z m) us W:=⟨.inl ⟨_,iZ⟩,B,by rw[hT];exact X,by rw[hT];exact R,by rw[hT];exact w,λu hu=>by have:=O u hu;revert this;cases u<;>simp[nE,Value.oneCell']⟩
  have D:((Z xs+Z m:V):Int)<=9223372036854775807:=by have:(Z xs+Z m)*1<=(Z xs+Z m)*T.n:=jk _ U;omega
  have hr:=run_append_grow_src (P:=P) W t1 t2 ty L f fw DX Q hz base (Z xs) d l Y bN (Z m) us yX jh D<|growslice_fits_wide jh hb
  have yG:=grownCap_ge W (Z xs+Z m) d L
  refine⟨_,_,hr,.inr ⟨W.heap.size,grownCap W (Z xs+Z m) d L,l++us++(Builtin.zeroCells fw.cells<|grownCap W (Z xs+Z m) d L-(Z xs+Z m)).toList,ax,by rw[show W.heap.size=W.drew.heap.size from J,heap_alloc_new];congr 2;apply Du;simp,?_,by simpa using yG,by simpa using mr,X2 G' w hor I,hN,c⟩,ax,?_,J,J,J,?_,?_⟩
  .simp only[iX,G',w,Ha,size_zeroCells,tT,hT,<-gy];congr 1;omega
  .intro k F _;exact heap_alloc_old W.drew _ F
  .exact AY x _
  .intro k F;simp only[cy,aq]at F;exact .inl G
 rcases hv with⟨rfl,rfl⟩|⟨b,C,vs,rfl,hh,q,hle,avq,hr,hNb,hH⟩
 .by_cases X3:m=[]
  .subst X3;refine⟨.slice none 0 0,W,?_,.inl ⟨J,J⟩,aT _,λ_ _ _=>rfl,J,J,J,p,by simp[cy]⟩;have h0:us=[]:=gK (by simpa using w);subst h0;rw[<-hT]at X;simp[xi,run_underlying DX,run_underlying iZ,sizeOf,typeInfo,Q,B];have h3:(yW f.size 0 bN).run P W= .ok #[] W:=by simpa using X
   rw[h3];rfl
  .have:=cR.2 X3;exact K none 0 [] J (run_firstCells_none W.drew _ 0 0 0) ax ax (by simpa using this)
 .by_cases t:Z xs+Z m<=C
  .have oq:b<W.heap.size:=(fb.1 hh).1;have A:Z xs*f.size+Z us<=Z vs:=by rw[w,q,hT,<-gy];exact et _ t
   have iW:=ai0 (P:=P) (ty:=ty) DX iZ Q (B W) (by rw[hT];exact X) hh O t A;refine⟨_,_,iW,.inr ⟨b,C,cF vs us<|Z xs*f.size,ax,Dv oq,by rw[w8 _ _ _ A];exact q,by simpa using t,by simpa using mr,?_,hNb,hH⟩,yJ,?_,J,J,J,yI p hH,?_⟩
   .unfold cF;rw[hT];refine X2 ?_ w (λi Q=>?_) I
    .simp only[gL];rw[q];have:=et T.n hle;omega
    .rw[XZ _ _ _ _ Q];exact hr i Q
   .intro k _ F;exact w7 (λe=>F<|by simp[cy,e])
   .intro k F;exact .inr F
  .have avr:=et T.n hle;have Hb:(M (Z xs*T.n) vs).length=Z xs*T.n:=by rw[gL,q];omega
   refine K (ad ⟨b,0,none⟩) C (M (Z xs*T.n) vs) J ?_ Hb (λi Q=>by rw[XZ _ _ _ _ Q];exact hr i Q) G;rw[hT];refine run_firstCells_some W.drew T.n (Z xs) ⟨b,0,none⟩ (Z xs) C _ Hb ?_;intro j u hj;let ⟨Dh,vq⟩:=pS.1 hj;simp only[rf]at vq;simp only[lO,eP];have Hc:W.drew.heap[b]? =ad (.cells vs.toArray L (0,0)):=hh;rw[vz Hc j (by simp at Dh;omega),vq]
def DY{a:Act}{o}{b:Builtin}{args}{d}(f:o.op= .call ⟨.builtin b,args,d⟩){W W'}{v}(h:∀g,(Go.builtin b d o.type g<|args.map a.eval).run P W= .ok (.value v) W'):(execOp a.eval o).run P W= .ok (.value v) W':=by rw[execOp,f];simp only[resolve,pure_bind,invoke];exact h _
def tU:E V->E (Key×au Info)
 |[]=>[]
 |id::a=>(.m id,none)::tU a
def Bf:E V->E (V×aD)->E (V×aD)
 |[],l=>l
 |id::a,l=>Bf a<|sF id l
def Q3 ids t:aC (tU ids) (.s t)=none:=by
 induction ids with
 |nil=>rfl
 |cons id r a=>simp[tU,aC,a]
def Bg(a:V):∀(b:E V),aC (tU b) (.m a)=if a∈b then ad none else none
 |[]=>by simp[tU,aC]
 |id::d=>by
  simp only[tU,aC,Key.m.injEq,bZ];by_cases h:id=a
  .simp[h]
  .rw[y h,Bg a d];by_cases h2:a∈d
   .simp[h2]
   .have:¬(a=id\/a∈d):=by rintro(e|e);exact h e.symm;exact h2 e
    rw[y h2,y this]
def X4(a:V):∀(b:E V)(l:E (V×aD)),U a (Bf b l)=if a∈b then none else U a l
 |[],l=>by simp[Bf]
 |id::d,l=>by
  simp only[Bf];rw[X4 a d,A2];by_cases h:id=a
  .simp[h]
  .have:¬(a=id):=λe=>h e.symm
   simp[h,this]
def ai5(a:St) d new ids x b:(⟨(d,x)::a.sl,(new,b)::Bf ids a.mem,a.nx,a.gd⟩:St).kn=bs a.kn ((.s d,ad<|.v x)::(.m new,ad<|.b b)::tU ids):=by
 funext k;cases k with
 |s t=>
  by_cases e:d=t
  .simp[St.kn,U,bs,aC,e]
  .simp[St.kn,U,bs,aC,e,Q3]
 |m j=>
  by_cases e:new=j
  .simp[St.kn,U,bs,aC,e]
  .simp only[St.kn,U,bs,aC,e,reduceCtorEq,Key.m.injEq,bQ,X4,Bg];split<;>simp
def X5(b7:cq P tt=ae){ops}{i}{o:aX}{d:V}(ho:ops[i]? =ad o)(hg:o.guard=none)(hd:o.dst=ad d){n}(df:d<n){x B}{t1 t2}(bO:o.op= .call ⟨.builtin .append,#[x,B],#[t1,t2]⟩)
 {w}{ids}{aU E2:dH} {T}{xs ys:E T.den} (hx:(∃f,ids=[f]/\w.ev x=ad (.c<|.X f)/\U f w.mem=ad (.vec aU T xs))\/(ids=[]/\w.ev x=ad (.c<|.V<|.slice none 0 0)/\xs=[]))
  (hy:w.ev B=ad (.c<|.S T ys)) {ti X6 ei:TI} (nF:U t1 tt=ad ti) (L:ti.kind= .sl aU) (ai6:U t2 tt=ad X6) (Bb:X6.kind= .sl E2) (m0:U aU tt=ad ei) (pT:ei.size=T.n) (Li:Z ei.zero=T.n)
  (hb:((Z xs+Z ys)+(Z xs+Z ys)/4+192)*ei.bytes<=281474976710656) (mr:(Z xs+Z ys)*T.n<=140737488355328) (l:V):
  lr P n ops i w ⟨(d,.c<|.X l)::w.sl,(l,.vec aU T<|xs++ys)::Bf ids w.mem,w.nx,w.gd⟩ l (bJ [x,B]++cY ids,.s d:: .m l::cY ids):=by
 refine⟨cH w x++cH w B++fM w ids,(.s d,ad<|.v<|.c<|.X l)::(.m l,ad<|.b<|.vec aU T<|xs++ys)::tU ids,?_,?_,ai5 w d l ids _ _,?_,?_⟩
 .intro F jZ Q known σ g W a K q aS A hK;have tV:cN g (.S T ys) (a.eval B):=dq aS w B _ hy<|λO cc=>A O dT;have hv:G9 F.N g W aU T xs (a.eval x)/\(∀k,cy (a.eval x)=ad k->∃f b,ids=[f]/\σ (.m f)=ad (.b b)/\cy (g.γ f)=ad k):=by
   rcases hx with⟨f,rfl,hx,hl⟩|⟨rfl,hx,rfl⟩
   .have tW:a.eval x=g.γ f:=dq aS w x _ hx<|λO cc=>A O dT;have D:σ (.m f)=ad (.b<|.vec aU T xs):=A (.m f,.b<|.vec aU T xs) pU;rw[tW];exact⟨aS.cA f _ D,λk L=>⟨f,_,J,D,L⟩⟩
   .have tW:a.eval x= .slice none 0 0:=dq aS w x _ hx<|λO cc=>A O dT;rw[tW];exact⟨.inl ⟨J,J⟩,by simp[cy]⟩
  let ⟨hv,Hd⟩:=hv;have h1:=(eK b7 nF).kind;rw[L]at h1;have h2:=(eK b7 ai6).kind;rw[Bb]at h2;let ⟨inf,vD,vO,DZ,z,xj,xc⟩:=(eK b7 m0).info;have tT:z.cells.size=inf.size:=by
   have:Z z.cells.toList=Z (ei.zero.map ZV.eY):=by rw[xc]
   simp only[Ha,cT]at this;omega
  let ⟨v',W',iW,ai7,gw,ai8,e1,e2,e3,tX,ai9⟩:=ai2 (P:=P) (ty:=o.type) aS.sub h1 h2 vD xj tT G hv tV (by rw[DZ];exact hb) mr<|.inl aS.below.size;unfold wpOp;simp only[ho,gx,hg,cd];refine .inl ?_;unfold oo;rw[DY bO (W':=W') (v:=v') (by have e:(#[x,B]:Array eQ).map a.eval= #[a.eval x,a.eval B]:=ax;intro cs;rw[e];simp only[Go.builtin,db,iW,dx];rfl)];simp only[ny,hd];have Bh:d<a.tmps.size:=mm;let M:Gh:=⟨g.H,λf=>if f=l then v' else g.γ f⟩;have D0:fL known g M:=⟨cE.refl _,λf p=>by
   have:f≠l:=λe=>q<|e▸p
   simp[M,this]⟩
  have R:∀f∈ids,∃b,σ (.m f)=ad (.b b):=by
   intro f p;rcases hx with⟨tY,rfl,hx,hl⟩|⟨rfl,_⟩
   .simp only[iw]at p;subst p;exact⟨_,A (.m f,.b<|.vec aU T xs) pU⟩
   .cases p
  have Bi:∀f∈ids,f≠l:=λf p e=>by let ⟨b,hb⟩:=R f p;exact q<|e▸aS.dn _ _ hb
  refine hK M _ _<|aS.step (chg:=λj=>j∈ids) (g':=M) ⟨D0,λ_ _ _=>rfl,tX,gw,?_,e1,e2,e3⟩ _ l q nz aS.defers ?_ ?_ ?_ ?_ ?_ ?_
  .intro k L I;refine ai8 k L<|λe=>?_;obtain⟨f,b,rfl,D,kL⟩:=Hd k e;exact I f ax kL
  .intro t ht;have I:d≠t:=sD;simp[gT,kH I]
  .intro f p;refine⟨?_,R f p⟩;simp only[aC,reduceCtorEq,bQ,Key.m.injEq,Bg,p,cd];split<;>simp
  .intro t u ht;simp only[aC]at ht;split at ht
   .rename_i e;simp only[Key.s.injEq]at e;simp only[aq,Info.v.injEq]at ht;subst e;subst ht;simp[gT,Bh,a8,cN,M]
   .simp[Q3]at ht
  .intro f b ht;simp only[aC,reduceCtorEq,bQ]at ht;split at ht
   .rename_i e;simp only[Key.m.injEq]at e;subst e;simp only[aq,Info.b.injEq]at ht;subst ht;have hr:G9 F.N M W' aU T (xs++ys) (M.γ l):=by
     have e:M.γ l=v':=by simp[M]
     rw[e];exact ai7
    refine⟨hr,.inr ⟨J,λk L=>?_⟩⟩;simp only[M,cd]at L;rcases ai9 k L with h|h
    .exact .inl h
    .let ⟨f,b,Y,D,kL⟩:=Hd k h;refine .inr ⟨f,b,D,?_,kL⟩;have I:=Bi f (by simp[Y]);simp only[aC,reduceCtorEq,bQ,Key.m.injEq,Ne.symm I,Bg];simp[Y]
   .rw[Bg]at ht;split at ht<;>simp at ht
  .intro k B ht;simp only[aC]at ht;split at ht
   .simp only[aq]at ht;subst ht;intro f p;simp[Info.ak,AV.ak,C.ak]at p;exact .inr p
   .split at ht
    .simp only[aq]at ht;subst ht;intro f p;simp[Info.ak,aD.ak]at p
    .cases k with
     |s t=>simp[Q3]at ht
     |m j=>rw[Bg]at ht;split at ht<;>simp at ht
  .intro f B ht;simp only[aC,reduceCtorEq,bQ]at ht;split at ht
   .rename_i e;simp only[Key.m.injEq]at e;exact .inr e.symm
   .rw[Bg]at ht;split at ht<;>simp at ht
 .intro O cc;rcases be.1 cc with h|h
  .rcases be.1 h with h|h
   .exact dX _ x O h
   .exact dX _ B O h
  .exact lp _ ids O h
 .intro k L;simp only[dw,fF,be]at L;rcases L with(h|h)|h
  .exact eH _<|eI w [x,B] k tL
  .exact eH _<|eI w [x,B] k vE
  .exact gI _<|kf w ids k h
 .have hd:∀ids:E V,fP (tU ids)=cY ids:=by
   intro ids;induction ids with
   |nil=>rfl
   |cons f r ih=>simp only[tU,fP,gJ,cY]at ih⊢;rw[ih]
  intro k L;have:fP ((.s d,ad<|.v<|.c<|.X l)::(.m l,ad<|.b<|.vec aU T<|xs++ys)::tU ids)= .s d:: .m l::cY ids:=by rw[<-hd ids];rfl
  rw[<-this];exact L
def ai'{f}{a}{g i}{d}{x B}{t1 t2 ty:dH}{pos}{H}{os}{p}{mem}{t}{u}{ks}{Q:St->Prop}(L:cq P tt=ae)
 {b}{v E2:dH} {T}{xs k}(hx:St.ev ⟨p,mem,t,u⟩ x=ad (.c<|.X b)) (hl:U b mem=ad (.vec v T xs))
  (hy:St.ev ⟨p,mem,t,u⟩ B=ad (.c<|.S T k)) {ti l w}(W:U t1 tt=ad ti) (hk:ti.kind= .sl v) (o:U t2 tt=ad l) (Bb:l.kind= .sl E2) (m0:U v tt=ad w) (pT:w.size=T.n) (Li:Z w.zero=T.n)
  (hb:((Z xs+Z k)+(Z xs+Z k)/4+192)*w.bytes<=281474976710656) (mr:(Z xs+Z k)*T.n<=140737488355328)
  (h:RG P n f a g (i+1) os ⟨(d,.c<|.X<|1000000*g+1000*i)::p,(1000000*g+1000*i,.vec v T<|xs++k)::sF b mem,t,u⟩ (g8 a ks (bJ [x,B]++cY [b],[.s d,.m<|1000000*g+1000*i,.m b])) Q) (df:dt d n=ae:=by rfl):
  RG P n f a g i (⟨ad d,.call ⟨.builtin .append,#[x,B],#[t1,t2]⟩,ty,pos,H,none⟩::os) ⟨p,mem,t,u⟩ ks Q:=
 nJ (λC=>X5 L C J J (cP df) J (.inl ⟨b,J,hx,hl⟩) hy W hk o Bb m0 pT Li hb mr _) (nK h)
def aja{b}{a}{f i}{d}{x v}{t1 t2 ty:dH}{pos}{w}{os}{o}{mem}{p}{t}{ks}{Q:St->Prop}(B:cq P tt=ae)
  {H E2:dH} {T}{g}(hx:St.ev ⟨o,mem,p,t⟩ x=ad (.c<|.V<|.slice none 0 0))
  (hy:St.ev ⟨o,mem,p,t⟩ v=ad (.c<|.S T g)) {ti k u}(L:U t1 tt=ad ti) (hk:ti.kind= .sl H) (l:U t2 tt=ad k) (W:k.kind= .sl E2) (m0:U H tt=ad u) (pT:u.size=T.n) (Li:Z u.zero=T.n)
  (hb:(Z g+Z g/4+192)*u.bytes<=281474976710656) (mr:Z g*T.n<=140737488355328)
  (h:RG P n b a f (i+1) os ⟨(d,.c<|.X<|1000000*f+1000*i)::o,(1000000*f+1000*i,.vec H T g)::mem,p,t⟩ (g8 a ks (bJ [x,v],[.s d,.m<|1000000*f+1000*i])) Q) (df:dt d n=ae:=by rfl):
  RG P n b a f i (⟨ad d,.call ⟨.builtin .append,#[x,v],#[t1,t2]⟩,ty,pos,w,none⟩::os) ⟨o,mem,p,t⟩ ks Q:=
 nJ (λC=>X5 (xs:=[]) (ids:=[]) B C J J (cP df) J (.inr ⟨J,hx,J⟩) hy L hk l W m0 pT Li vG (by simpa using mr) _) (nK<|by simpa[cY,Bf]using h)
end
end Go.El
