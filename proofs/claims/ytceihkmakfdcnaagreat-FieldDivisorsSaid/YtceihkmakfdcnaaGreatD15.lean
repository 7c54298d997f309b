/- The engine: an element of an array value at a known place. Own work; no condition. -/
import Derived.OpenShut
import Derived.SizedLaws
import Derived.Test.YtceihkmakfdcnaaGreatD14
import Derived.Test.YtceihkmakfdcnaaGreatD1
set_option linter.all false
set_option maxHeartbeats 16000000
set_option maxRecDepth 100000
open Bool renaming true->ae,false->ah
open Go renaming Program->bW,Oper->a4,TypeId->dX,Value->aV,DataW->Az
open Go.Addr renaming add->Wc
open Go.DataW renaming trod->mr,weightsEach->C3,weightsAll->PC,weights->Wd
open Go.Instr renaming sliceAt->Bi,sliceBounds->tP,sliceBound->GF
open Go.Proofs.Tryz renaming prog->q
open Go.Region renaming wanted->gV
open List renaming length->Z,take->c,drop->aA,replicate->bc,mapM_nil->agY,range->bX
open Option renaming some->ad,bind_some->atw
open _root_ renaming Nat->Y,List->V
namespace Go.El
open Go Go.Proofs Go.RowKit
section
variable{P:bW}{tt:TT}{n:Y}
def Wb(a:Bool):AV->Bool
 | .c (.B d)=>d== !a
 | .c (.V<|.tuple _)=>ae
 |_=>ah
def atv{H}{m}{i}{o:a4}(ho:m[i]? =ad o){U}{f}(hg:o.guard=ad (U,f)){p}(L:oT m.toList U=ad p){st}{v}(hb:ja p st.sl=ad v)(B:Wb f v=ae)
  {d:Y} (hd:o.dst=ad d):kT P n m i st (st.put d<|.c<|.V undef) H ([.s p],[.s d]):=by
 refine⟨[(.s p,.v v)],[(.s d,ad<|.v<|.c<|.V undef)],?_,?_,oS st d _,λk hk=>KO,λk hk=>jG⟩
 .intro F E Q X R g W a K M l G I;have A:=l.eY p v<|G (.s p,.v v) az;have N:gV o (yielded m a.tmps)=ah:=by
   unfold Wb at B;split at B
   .rename_i b;have B:b= !f:=eq_of_beq B;simp only[gV,hg,DK L A,B];cases f<;>rfl
   .rename_i c;have A:a.tmps.getD p undef= .tuple c:=A;have O:yielded m a.tmps U=none:=by
     unfold oT at L;unfold yielded;rw[<-DL];split at L
     .rename_i S q;rw[q];simp only[atw,L];rw[nM]at A;cases e:a.tmps[p]? with
      |none=>rfl
      |some x=>rw[e]at A;have A:x= .tuple c:=A;rw[A]
     .cases L
    simp only[gV,hg,O];rfl
   .cases B
  unfold wpOp;simp only[ho,N,iB,bN,hd];refine I g W _<|l.step (chg:=λ_=>False) (g':=g) (W':=W) ⟨⟨cL.refl _,λ_ _=>rfl⟩,λ_ _ _=>rfl,l.sub,aO _,λ_ _ _=>rfl,J,J,J⟩ _ H M mE l.defers ?_ (λ_ h=>h.elim) ?_ ?_ ?_ ?_
  .intro t ht;have r:d≠t:=qn;simp[Act.put,lE r]
  .intro t u ht;simp only[aE]at ht;split at ht
   .rename_i e;simp only[ar,Info.v.injEq]at ht;subst ht;have e:t=d:=by first|exact e|exact e.symm|simpa using e| (simp at e;exact e.symm)
    subst e;show(a.put (ad t) undef).tmps.getD t undef=undef;simp only[Act.put,nM];by_cases z:t<a.tmps.size
    .simp[Array.getElem?_setIfInBounds_self_of_lt z]
    .rw[Qb (by simpa using z)];rfl
   .simp at ht
  .intro D b ht;simp[aE]at ht
  .intro k y ht;simp only[aE]at ht;split at ht
   .simp only[ar]at ht;subst ht;intro D w;simp[Info.ak,AV.ak,C.ak]at w
   .simp at ht
  .intro D y ht;simp[aE]at ht
 .intro kx T;simp only[iK]at T;subst T;simp[St.kn,hb]
def J3(a:Bool)(f:V a4):Y->V a4->Y->V (Y×AV)->V Ks->Option (V a4×Y×V (Y×AV)×V Ks)
 |0,os,i,sl,g=>ad (os,i,sl,g)
 |k+1,os,i,sl,g=>match os with
  |o::l=>(match o.guard,o.dst with
   |some (p,want),ad d=>(match oT f p with
    |some m=>(match ja m sl with
     |some v=>if Wb want v then J3 a f k l (i+1) ((d,.c<|.V undef)::sl) (ia a g ([.s m],[.s d]))else none
     |none=>none)
    |none=>none)
   |_,_=>none)
  |[]=>none
def agV{g:Array a4}{f:Bool}{H:Y}{mem:V (Y×aG)}{t:Y}{u:V (Y×Bool)}{Q:St->Prop}:∀(k:Y)(x:V a4)(i:Y)(s:V (Y×AV))(y:V Ks){l:V a4}{A:Y}{m:V (Y×AV)}{p:V Ks},
  J3 f g.toList k x i s y=ad (l,A,m,p)->RG P n g f H A l ⟨m,mem,t,u⟩ p Q->RG P n g f H i x ⟨s,mem,t,u⟩ y Q
 |0,_,_,_,_,_,_,_,_,a,B=>by simp only[J3,ar,bM]at a;obtain⟨rfl,rfl,rfl,rfl⟩:=a;exact B
 |k+1,x,i,s,y,l,A,m,p,a,B=>by
  unfold J3 at a;split at a
  .rename_i o r;split at a
   .rename_i j C d K L;split at a
    .rename_i X M;split at a
     .rename_i v T;split at a
      .rename_i U;exact nc (λW=>atv W K M (st:=⟨s,mem,t,u⟩) T U L)<|nh<|agV k r (i+1) _ _ a B
      .cases a
     .cases a
    .cases a
   .cases a
  .cases a
end
section
variable{n:Y}{sl cr:V (Y×AV)}{mem cp:V (Y×aG)}{nx:Y}{gd cD:V (Y×Bool)}{ops:Array a4}{draw:Bool}{p:Pr}{ks dJ:V Ks}{i i' n0 cF:Y}
variable{R:St->Prop}{os:V a4}{d t:Y}{ty:dX}{pos:String}{iM:Array Edge}{dS:V a4}
def rsk k{a}{f}{g}{l}(m:J3 draw ops.toList k os i sl ks=ad (g,l,a,f))(o:RG q n ops draw nx l g ⟨a,mem,n0,gd⟩ f R):RG q n ops draw nx i os ⟨sl,mem,n0,gd⟩ ks R:=agV k os i sl ks m o
end
section
variable{P:bW}{tt:TT}
def aty(di:cq P tt=ae){ops}{i}{o:a4}{d:Y}(ho:ops[i]? =ad o)(hg:o.guard=none)(hd:o.dst=ad d){n}(dz:d<n){t}{x L}(b6:o.op= .slice t x none (ad L) none)
 {A}{f}{cC}{T:ET} {xs:V T.den} (hx:A.ev x=ad (.c<|.X f)) (hl:ja f A.mem=ad (.vec cC T xs)) {k:IntKind} {v:Y} (Ry:A.ev L=ad (.c<|.I k (v:Int))) (rJ:tN tt t T.n=ae) (hv:v<=Z xs) (l:Y):
  kT P n ops i A ⟨(d,.c<|.X l)::A.sl,(l,.vec cC T<|c v xs)::yQ [f] A.mem,A.nx,A.gd⟩ l (bK [x,L]++cV [f],.s d:: .m l::cV [f]):=by
 refine⟨cJ A x++cJ A L++fL A [f],(.s d,ad<|.v<|.c<|.X l)::(.m l,ad<|.b<|.vec cC T<|c v xs)::rG [f],?_,?_,XP A d l [f] _ _,?_,?_⟩
 .intro F kO Q z σ g W a K M aR D hK;have sW:a.eval x=g.γ f:=dA aR A x _ hx<|λkx b7=>D kx ef;have hrh:a.eval L= .int k (v:Int):=dA aR A L _ Ry<|λkx b7=>D kx ef;have U:σ (.m f)=ad (.b<|.vec cC T xs):=D (.m f,.b<|.vec cC T xs) qm;have hb:fV F.N g W f (.vec cC T xs):=aR.cX f _ U;have qh:=aR.ew _ _ U;let ⟨e,inf,H2,LK,hs⟩:=AR di rJ;obtain⟨v',jc,QN,D0⟩:∃v',(execOp a.eval o).run P W= .ok (.value v') W/\((v'= .slice none 0 0/\c v xs=[])\/∃b p,∃vs:V aV,v'= .slice (ad ⟨b,0,none⟩) (c v xs).length p/\W.heap[b]? =ad (.cells vs.toArray cC (0,0))/\Z vs=p*T.n/\(c v xs).length<=p/\(c v xs).length*T.n<=140737488355328/\(∀i(h:i<(c v xs).length),cZ g.H T (c v xs)[i] ((aA (i*T.n) vs).take T.n))/\F.N b/\∀o,g.H b o=none)/\∀kk,cE v'=ad kk->cE (g.γ f)=ad kk:=by
   rcases hb with⟨q,r⟩|⟨b,p,vs,q,r,h3,h4,h5,h6,h7,h8⟩
   .have vU:v=0:=by rw[r]at hv;simpa using hv
    refine⟨.slice none 0 0,?_,.inl ⟨J,by rw[r];simp⟩,λkk h=>by simp[cE]at h⟩;have G:(Bi t (a.eval x) none (ad<|a.eval L) none).run P W= .ok (.slice none 0 0) W:=by rw[sW,q,hrh,vU];simp[Bi,Instr.slice,tP,GF,asIntOf,Sem.run_bind,run_underlying H2,Result.andThen,run_sizeOf LK]
    simp[execOp,b6,G,Sem.run,pure]
   .have hl:(c v xs).length=v:=by rw[eL];omega
    refine⟨.slice (ad ⟨b,0,none⟩) (c v xs).length p,?_,.inr ⟨b,p,vs,J,r,h3,O,?_,λi Y1=>?_,h7,h8⟩,λkk h=>by rw[q];simpa[cE]using h⟩
    .have G:(Bi t (a.eval x) none (ad<|a.eval L) none).run P W= .ok (.slice (ad ⟨b,0,none⟩) (c v xs).length p) W:=by rw[sW,q,hrh,hl];have hc:(0:Int)<=(v:Int)/\(v:Int)<=(p:Int):=⟨O,O⟩;have hvc:v<=p:=O;simp[Bi,Instr.slice,tP,GF,asIntOf,Sem.run_bind,run_underlying H2,Result.andThen,run_sizeOf LK,hvc,lF]
     simp[execOp,b6,G,Sem.run,pure]
    .rw[hl];exact bm (eC _ hv) h5
    .rw[qk];exact h6 i O
  unfold wpOp;simp only[ho,gV,hg,cj];refine .inl ?_;unfold Oper.wp;rw[jc];simp only[Oper.upon,hd];have xe:d<a.tmps.size:=mD;let w:Gh:=⟨g.H,λf=>if f=l then v' else g.γ f⟩;have yR:gC z g w:=⟨cL.refl _,λf B=>by
   have:f≠l:=λe=>M<|e▸B
   simp[w,this]⟩
  have R:f≠l:=λe=>M<|e▸qh
  refine hK w _ _<|aR.step (chg:=λj=>j∈[f]) (g':=w) ⟨yR,λ_ _ _=>rfl,aR.sub,aO _,λ_ _ _=>rfl,J,J,J⟩ _ l M mE aR.defers ?_ ?_ ?_ ?_ ?_ ?_
  .intro t ht;have R:d≠t:=qn;simp[Act.put,lE R]
  .intro j hj;simp only[iK]at hj;subst hj;refine⟨?_,_,U⟩;simp only[aE,reduceCtorEq,bN,Key.m.injEq,sV,iK,cj];split<;>simp
  .intro t u ht;simp only[aE]at ht;split at ht
   .rename_i e;simp only[Key.s.injEq]at e;simp only[ar,Info.v.injEq]at ht;subst e;subst ht;simp[Act.put,xe,bu,c7,w]
   .simp[Hf]at ht
  .intro j b ht;simp only[aE,reduceCtorEq,bN]at ht;split at ht
   .rename_i e;simp only[Key.m.injEq]at e;subst e;simp only[ar,Info.b.injEq]at ht;subst ht;refine⟨?_,.inr ⟨J,λk S=>?_⟩⟩
    .rcases QN with⟨q,r⟩|⟨b,p,vs,q,r⟩
     .exact .inl ⟨by simp[w,q],r⟩
     .exact .inr ⟨b,p,vs,by simp[w,q],r⟩
    .simp only[w,cj]at S;refine .inr ⟨f,_,U,?_,D0 k S⟩;simp only[aE,reduceCtorEq,bN,Key.m.injEq,Ne.symm R,sV];simp
   .rw[sV]at ht;split at ht<;>simp at ht
  .intro k y ht;simp only[aE]at ht;split at ht
   .simp only[ar]at ht;subst ht;intro f B;simp[Info.ak,AV.ak,C.ak]at B;exact .inr B
   .split at ht
    .simp only[ar]at ht;subst ht;intro f B;simp[Info.ak,aG.ak]at B
    .cases k with
     |s t=>simp[Hf]at ht
     |m j=>rw[sV]at ht;split at ht<;>simp at ht
  .intro j y ht;simp only[aE,reduceCtorEq,bN]at ht;split at ht
   .rename_i e;simp only[Key.m.injEq]at e;exact .inr e.symm
   .rw[sV]at ht;split at ht<;>simp at ht
 .intro kx b7;rcases bg.1 b7 with h|h
  .rcases bg.1 h with h|h
   .exact eD _ x kx h
   .exact eD _ L kx h
  .exact kr _ [f] kx h
 .intro k S;simp only[dI,fM,bg]at S;rcases S with(h|h)|h
  .exact eH _<|eO A [x,L] k tV
  .exact eH _<|eO A [x,L] k vD
  .exact gD _<|ku A [f] k h
 .intro k S;simpa[fW,rG,cV]using S
end
section
variable{n:Y}{sl cr:V (Y×AV)}{mem cp:V (Y×aG)}{nx:Y}{gd cD:V (Y×Bool)}{ops:Array a4}{draw:Bool}{p:Pr}{ks dJ:V Ks}{i i' n0 cF:Y}
variable{R:St->Prop}{os:V a4}{d t:Y}{ty:dX}{pos:String}{iM:Array Edge}{dS:V a4}
def agX{x f}{a}{u}{T}{xs}(v:Y)(A:runs dY n nx draw ops.toList os i ⟨sl,mem,n0,gd⟩ .t ks=(⟨ad d,.slice t x none (ad f) none,ty,pos,iM,none⟩::dS,i',⟨cr,cp,cF,cD⟩,p,dJ))(B:St.ev ⟨cr,cp,cF,cD⟩ x=ad (.c<|.X a))(H:ja a cp=ad (.vec u T xs)){k}{y}(g:St.ev ⟨cr,cp,cF,cD⟩ f=ad (.c<|.I k y))(L:y=(v:Int))(l:tN dY t T.n=ae)(M:v<=Z xs)
  (P:RG q n ops draw nx (i'+1) dS ⟨(d,.c<|.X<|1000000*nx+1000*i')::cr,(1000000*nx+1000*i',.vec u T<|c v xs)::ry a cp,cF,cD⟩ (ia draw dJ (bK [x,f]++cV [a],[.s d,.m<|1000000*nx+1000*i',.m a])) R)
  (hp:p:=by exact mb) (o:Nat.blt d n=ae:=by rfl):RG q n ops draw nx i os ⟨sl,mem,n0,gd⟩ ks R:=by
 subst L
 exact kU cv A hp<|nc (λC=>aty cv C J J (c8 o) J B H g l M _)<|nh P
end
def Py(P:bW):Y->V Field->Bool
 |_,[]=>ae
 |off,f::a=>decide (f.offset=off)&&Py P (off+P.cellsOf f.type) a
def yn(P:bW):V dX->Y
 |[]=>0
 |t::a=>P.cellsOf t+yn P a
def wN(P:bW):Y->ET->V dX->Bool
 |0,_,_=>ah
 |_+1,_,[]=>ah
 |f+1,T,[t]=>(match P.underlying t with
  |some (.int k)=>(match T with
   | .int g=>decide<|g=k
   |_=>ah)
  |some .bool=>(match T with
   | .bool=>ae
   |_=>ah)
  |some (.slice a)=>(match T with
   | .sl d=>wN P f d [a]&&decide (P.cellsOf a=d.n)&&decide (d.n<=P.bytesOf a)
   |_=>ah)
  |some (.struct fs)=>wN P f T (fs.toList.map (·.type))&&Py P 0 fs.toList&&decide (yn P (fs.toList.map (·.type))=P.cellsOf t)
  |some (.array n a)=>wN P f T (bc n a)&&decide (yn P (bc n a)=P.cellsOf t)
  |_=>ah)
 |f+1,T,t::i::l=>(match T with
  | .pr A B=>wN P f A [t]&&wN P f B (i::l)
  |_=>ah)
def ve:(T:ET)->T.den->Prop
 | .int k,n=>(Lit.int k n).wf=ae
 | .bool,_=>True
 | .z,_=>False
 | .q,_=>False
 | .sl T,xs=>∀x∈xs,ve T x
 | .pr A B,x=>ve A x.1/\ve B x.2
def PA{k n:Type}{f:k->Option n}:∀{l:V k}{g:V n},l.mapM f=ad g->Z g=Z l/\∀(i:Y)(x:k),l[i]? =ad x->∃y,g[i]? =ad y/\f x=ad y
 |[],g,d=>by simp only[agY]at d;cases d;exact⟨J,λi x hx=>by simp at hx⟩
 |a::l,g,d=>by
  rw[GV]at d;cases m:f a with
  |none=>rw[m]at d;cases d
  |some o=>
   rw[m]at d
   cases hl:l.mapM f with
   |none=>rw[hl]at d;cases d
   |some s=>
    rw[hl]at d
    cases d
    let ⟨h1,h2⟩:=PA hl
    refine⟨zC,λi x hx=>?_⟩
    cases i with
    |zero=>simp only[m9,ar]at hx;subst hx;exact⟨o,J,m⟩
    |succ i=>simpa using h2 i x D8
section
variable{H:Type}{enc:dX×aV->H}{P:bW}{w:World}{base:Y}{spare:Y->Bool}{held:Bool}
def PB(enc:dX×aV->H)(P:bW)(w:World)(base:Y)(spare:Y->Bool)(held:Bool):V dX->V aV->V (Az H)->Prop
 |[],cs,ds=>cs=[]/\ds=[]
 |t::k,cs,ds=>∃f g d i,cs=f++g/\ds=d::i/\(∃a ps,mr enc P w base spare held a t f=ad (d,ps))/\PB enc P w base spare held k g i
def agZ{a:Y}{g:V aV}:∀{i:V Field}{off:Y}{xs:V (Az H×V MemPlace)},Py P off i=ae->Z g=off+yn P (i.map (·.type))->
  (i.mapM λf=>mr enc P w base spare held a f.type<|(aA f.offset g).take<|P.cellsOf f.type)=ad xs->PB enc P w base spare held (i.map (·.type)) (aA off g) (xs.map (·.1))
 |[],off,xs,_,hl,d=>by simp only[agY]at d;cases d;simp only[JU,yn]at hl⊢;exact⟨tU O,J⟩
 |f::i,off,xs,l,hl,d=>by
  simp only[Py,cz,decide_eq_true_eq]at l;rw[GV]at d;simp only[il,yn]at hl;cases k:mr enc P w base spare held a f.type ((aA f.offset g).take<|P.cellsOf f.type)with
  |none=>rw[k]at d;cases d
  |some m=>
   rw[k]at d
   cases hm:(i.mapM λf=>mr enc P w base spare held a f.type<|(aA f.offset g).take<|P.cellsOf f.type)with
   |none=>rw[hm]at d;cases d
   |some s=>
    rw[hm]at d
    cases d
    have n:=agZ (off:=off+P.cellsOf f.type) l.2 O hm
    rw[l.1]at k
    refine⟨(aA off g).take<|P.cellsOf f.type,aA (off+P.cellsOf f.type) g,m.1,s.map (·.1),?_,J,⟨a,m.2,k⟩,n⟩
    rw[<-qp,sI]
def ag0{d n:Y}{a:dX}{g:V aV}:∀{m k:Y}{xs:V (Az H×V MemPlace)},k+m=n->Z g=n*P.cellsOf a->
  ((List.range' k m).mapM λi=>mr enc P w base spare held d a<|(aA (i*P.cellsOf a) g).take<|P.cellsOf a)=ad xs->PB enc P w base spare held (bc m a) (aA (k*P.cellsOf a) g) (xs.map (·.1))
 |0,k,xs,o,hl,f=>by simp only[List.range'_zero,agY]at f;cases f;exact⟨tU (by rw[hl,<-o];exact aO _),J⟩
 |m+1,k,xs,o,hl,f=>by
  rw[Ki,GV]at f;cases l:mr enc P w base spare held d a ((aA (k*P.cellsOf a) g).take<|P.cellsOf a)with
  |none=>rw[l]at f;cases f
  |some p=>
   rw[l]at f
   cases hm:((List.range' (k+1) m).mapM λi=>mr enc P w base spare held d a<|(aA (i*P.cellsOf a) g).take<|P.cellsOf a)with
   |none=>rw[hm]at f;cases f
   |some s=>
    rw[hm]at f
    cases f
    have t:=ag0 (k:=k+1) O hl hm
    refine⟨(aA (k*P.cellsOf a) g).take<|P.cellsOf a,aA ((k+1)*P.cellsOf a) g,p.1,s.map (·.1),?_,J,⟨d,p.2,l⟩,t⟩
    rw[O',<-qp,sI]
def ag1{f:dX}:∀{n:Y}{a:V (Az H)},Z a=n->C3 P (bc n f) a=PC P f a
 |0,[],_=>rfl
 |n+1,d::a,h=>by simp only[wP,C3,PC];rw[ag1 (n:=n) et]
def ag2{g:dX}{d:Az H}:∀{a:V (Az H)},d∈a->∀n∈d.weights P g,n∈PC P g a
 |x::a,f,n,i=>by
  simp only[PC,bg];rcases b9.1 f with rfl|f
  .exact .inl i
  .exact .inr<|ag2 f n i
def atB{d a}i f:Wc (Wc ⟨d,a,none⟩ i) f=⟨d,a+i+f,none⟩:=by unfold Wc;split<;>split<;>simp_all
def ag3(a:dX):∀n,yn P (bc n a)=n*P.cellsOf a
 |0=>by simp[yn]
 |n+1=>by rw[wP,yn,ag3 a n,O',K9]
section
variable{t:dX}{c:V aV}{fuel:Y}{d:Az H}{ps:V MemPlace}
def trod_bool(f:P.underlying t=ad .bool)(a:mr enc P w base spare held (fuel+1) t c=ad (d,ps)):∃g,c=[.bool g]:=by
 unfold mr at a;rw[f]at a;rcases c with _|⟨v,_|⟨v2,r⟩⟩
 .simp at a
 .cases v<;>first| (simp at a;done)|exact⟨_,rfl⟩
 .cases v<;>simp at a
def trod_int{k}(f:P.underlying t=ad (.int k))(a:mr enc P w base spare held (fuel+1) t c=ad (d,ps)):∃n,c=[.int k n]/\(Lit.int k n).wf=ae:=by
 unfold mr at a;rw[f]at a;rcases c with _|⟨v,_|⟨v2,r⟩⟩
 .simp at a
 .cases v with
  |int g n=>
   simp only at a
   split at a
   .rename_i e;exact⟨n,by rw[e.1],e.2⟩
   .cases a
  |_=>simp at a
 .cases v<;>simp at a
def trod_slice{m}(o:P.underlying t=ad (.slice m))(g:mr enc P w base spare held (fuel+1) t c=ad (d,ps)):c=[.slice none 0 0]\/
  ∃a k l f rest,c=[.slice (ad a) k l]/\k<=l/\d= .slice (f.map (·.1)) rest/\(bX k).mapM (λi=>(w.cells? base (a.add<|i*P.cellsOf m)<|P.cellsOf m).bind<|mr enc P w base spare held fuel m)=ad f:=by
 unfold mr at g
 rw[o]at g
 rcases c with _|⟨v,_|⟨v2,r⟩⟩
 .simp at g
 .cases v with
  |slice a k l=>
   cases a with
   |none=>
    cases k with
    |zero=>cases l with
     |zero=>exact .inl J
     |succ _=>simp at g
    |succ _=>simp at g
   |some a=>
    simp only at g
    split at g
    .rename_i n;refine .inr ⟨a,k,l,?_⟩;cases hm:(bX k).mapM (λi=>(w.cells? base (a.add<|i*P.cellsOf m)<|P.cellsOf m).bind<|mr enc P w base spare held fuel m)with
     |none=>rw[hm]at g;cases g
     |some f=>
      rw[hm]at g
      simp only[atw,cG,bM]at g
      obtain⟨rest,_,rfl,_⟩:=g
      exact⟨f,_,J,n.2.1,J,J⟩
    .cases g
  |_=>simp at g
 .cases v<;>simp at g
def trod_struct{g}(i:P.underlying t=ad (.struct g))(a:mr enc P w base spare held (fuel+1) t c=ad (d,ps)):Z c=P.cellsOf t/\∃xs,(g.toList.mapM λf=>mr enc P w base spare held fuel f.type<|(aA f.offset c).take<|P.cellsOf f.type)=ad xs/\d= .agg (xs.map (·.1)):=by
 unfold mr at a;rw[i]at a;simp only at a;split at a
 .rename_i k;simp only[cG,bM]at a;obtain⟨xs,l,m,_⟩:=a;exact⟨k,xs,l,m.symm⟩
 .cases a
def trod_array{n}{f}(g:P.underlying t=ad (.array n f))(a:mr enc P w base spare held (fuel+1) t c=ad (d,ps)):Z c=P.cellsOf t/\∃xs,((bX n).mapM λi=>mr enc P w base spare held fuel f<|(aA (i*P.cellsOf f) c).take<|P.cellsOf f)=ad xs/\d= .agg (xs.map (·.1)):=by
 unfold mr at a;rw[g]at a;simp only at a;split at a
 .rename_i k;simp only[cG,bM]at a;obtain⟨xs,l,m,_⟩:=a;exact⟨k,xs,l,m.symm⟩
 .cases a
end
def atC{a:Addr}{n}{f}(g:w.cells? base a n=ad f):Z f=n/\∀d(i:d<Z f),w.cell? (a.add d)=ad f[d]:=by
 unfold World.cells? at g;split at g
 .let ⟨k,h2⟩:=PA g;rw[mQ]at k;refine⟨k,λd i=>?_⟩;let ⟨y,l,m⟩:=h2 d d<|k6 O;rw[cO i]at l;cases l;exact m
 .cases g
def ag4{d:Type}{Q:Y->d->Prop}:∀n,(∀i,i<n->∃x,Q i x)->∃l:V d,Z l=n/\∀i(a:i<Z l),Q i l[i]
 |0,_=>⟨[],J,λi a=>absurd a<|vH i⟩
 |n+1,a=>by
  let ⟨l,h1,h2⟩:=ag4 n<|λi f=>a i O;let ⟨x,hx⟩:=a n<|dK n;refine⟨l++[x],zC,λi f=>?_⟩;rw[List.getElem_append];split
  .rename_i g;exact h2 i g
  .rename_i g;have:i=n:=by simp at f;omega
   subst this;simpa using hx
def F9:∀(f:Y)(T:ET)(ts:V dX),wN P f T ts=ae->∀(l:V aV)(ds:V (Az H)),PB enc P w base spare held ts l ds->(∀n∈C3 P ts ds,n<=reachBytes)->
  ∃x:T.den,cZ (λQ o=>w.cell? ⟨Q,o,none⟩) T x l/\ve T x
 |0,_,_,g,_,_,_,_=>by cases g
 |_+1,_,[],g,_,_,_,_=>by cases g
 |f+1,T,t::t'::ts,g,l,ds,hc,L=>by
  cases T with
  |pr A B=>
   simp only[wN,cz]at g
   obtain⟨U,bf,d,s,rfl,rfl,M,h3⟩:=hc
   simp only[C3,bg]at L
   let ⟨x,N,R⟩:=F9 f A [t] g.1 U [d] ⟨U,[],d,[],(iD U).symm,J,M,J,J⟩ (λn p=>by simp only[C3,iD]at p;exact L n<|.inl p)
   let ⟨y,S,z⟩:=F9 f B (t'::ts) g.2 bf s h3<|λn p=>L n<|.inr p
   exact⟨(x,y),⟨U,bf,J,N,S⟩,R,z⟩
  |_=>simp[wN]at g
 |f+1,T,[t],g,l,ds,hc,L=>by
  obtain⟨U,bf,d,s,rfl,rfl,⟨v,ps,M⟩,rfl,rfl⟩:=hc;rw[iD];have L:∀n∈d.weights P t,n<=reachBytes:=λn p=>L n (by simp only[C3,iD];exact p)
  cases v with
  |zero=>cases M
  |succ v=>
   unfold wN at g
   cases hu:P.underlying t with
   |none=>rw[hu]at g;cases g
   |some u=>
    rw[hu]at g
    cases u with
    |bool=>
     cases T with
     |bool=>let ⟨Q,hb⟩:=trod_bool hu M;exact⟨Q,hb,h⟩
     |_=>simp at g
    |int k=>
     cases T with
     |int k'=>
      have s:k'=k:=aU g
      subst s
      let ⟨n,p,W⟩:=trod_int hu M
      exact⟨n,p,W⟩
     |_=>simp at g
    |slice s=>
     cases T with
     |sl K=>
      simp only[cz,decide_eq_true_eq]at g
      let ⟨⟨D,g2⟩,G⟩:=g
      rcases trod_slice hu M with rfl|⟨a,len,cap,elems,rest,rfl,hlc,rfl,I⟩
      .exact⟨[],⟨_,J,none,0,J,aO _,az,.inl J⟩,λx C=>by cases C⟩
      .let ⟨m1,m2⟩:=PA I;rw[mQ]at m1;have F':(Z elems+Z rest)*P.bytesOf s<=reachBytes:=L _ (by simp[Wd,hu]);have hwe:∀n∈PC P s (elems.map (·.1)),n<=reachBytes:=λn p=>L n (by simp[Wd,hu,p])
       have key:∀i,i<len->∃x:K.den,∃l:V aV,(Z l=K.n/\cZ (λQ o=>w.cell? ⟨Q,o,none⟩) K x l/\∀j(hj:j<Z l),w.cell? ((a.add<|i*K.n).add j)=ad l[j])/\ve K x:=by
        intro i E;let ⟨y,S,z⟩:=m2 i i<|k6 E;cases X:w.cells? base (a.add<|i*P.cellsOf s) (P.cellsOf s)with
        |none=>rw[X]at z;cases z
        |some l=>
         rw[X]at z
         let ⟨l1,l2⟩:=atC X
         have hy:y.1∈elems.map (·.1):=iJ.2 ⟨y,LH S,J⟩
         let ⟨x,N,R⟩:=F9 f K [s] D l [y.1] ⟨l,[],y.1,[],(iD l).symm,J,⟨v,y.2,z⟩,J,J⟩ (λn p=>by simp only[C3,iD]at p;exact hwe n<|ag2 hy n p)
         rw[g2]at l1 l2
         exact⟨x,l,⟨l1,N,l2⟩,R⟩
       let ⟨xs,q1,q2⟩:=ag4 len key;refine⟨xs,⟨_,J,ad a,cap,by rw[q1],O,?_,?_⟩,λx C=>?_⟩
       .have e1:Z xs*K.n<=(Z elems+Z rest)*P.bytesOf s:=mL O G;simp only[reachBytes]at F';omega
       .by_cases h0:len=0
        .left;exact eT O
        .right;obtain⟨Q,off,F⟩:=a;have q:F=none:=by let ⟨l,⟨c1,_,c3⟩,_⟩:=q2 0 O;have:=K.AE;have:=c3 0 O;simpa[Wc]using World.cell?_spot this
         subst q;refine⟨Q,off,J,λi E=>?_⟩;let ⟨l,⟨c1,c2,c3⟩,_⟩:=q2 i E;refine⟨l,c1,c2,λj hj=>?_⟩;have:=c3 j hj;rw[atB]at this;exact this
       .let ⟨i,E,s⟩:=La C;let ⟨_,_,W⟩:=q2 i E;rw[<-s];exact W
     |_=>simp at g
    |struct fs=>
     simp only[cz,decide_eq_true_eq]at g
     let ⟨⟨D,g2⟩,G⟩:=g
     let ⟨l1,xs,C,hd⟩:=trod_struct hu M
     subst hd
     have:=agZ (off:=0) g2 O C
     rw[qu]at this
     exact F9 f T _ D U _ this (λn p=>L n<|by simpa[Wd,hu]using p)
    |array n s=>
     simp only[cz,decide_eq_true_eq]at g
     let ⟨D,G⟩:=g
     let ⟨l1,xs,C,hd⟩:=trod_array hu M
     subst hd
     rw[P6]at C
     have CL:(xs.map (·.1)).length=n:=by rw[cy,(PA C).1];simp
     have:=ag0 (n:=n) (k:=0) O (by rw[l1,<-G,ag3]) C
     rw[sU,qu]at this
     refine F9 f T _ D U _ this<|λm I=>L m ?_
     rw[ag1 CL]at I
     simpa[Wd,hu]using I
    |_=>simp at g
def We{f}{T}{t}{v}{d:Az H}{ps}(g:wN P f T [t]=ae)(i:DataW.Trod enc P w base spare held t v d ps)(k:∀n∈d.weights P t,n<=reachBytes):
  ∃x:T.den,cZ (λl o=>w.cell? ⟨l,o,none⟩) T x v.cells.toList/\ve T x:=by
 let ⟨fuel,m⟩:=i
 refine F9 f T [t] g _ [d] ⟨_,[],d,[],(iD _).symm,J,⟨fuel,ps,m⟩,J,J⟩ (λn a=>?_)
 simp only[C3,iD]at a
 exact k n a
def ag5{g:Reach}{t:dX}{v:aV}(f:(match P.underlying t with|some (.struct _)=>ae|some (.array _ _)=>ae|_=>ah)=ae)(a:Value.okWide P w g base t v):∃d,v= .agg d:=by
 unfold Value.okWide at a;split at f
 .rename_i e;rw[e]at a;let ⟨d,a,_⟩:=a;exact⟨d,a⟩
 .rename_i e;rw[e]at a;let ⟨d,a,_⟩:=a;exact⟨d,a⟩
 .cases f
def ag6{g}{T}{x:T.den}{d}(f:cZ g.H T x (Value.agg d).cells.toList):bu g (.a<|av T x) (.agg d):=⟨d.toList,az,yq T x _ f⟩
end
end Go.El
