import Derived.Test.YtlfmlodanoolhaaGreatDoorQ38
import Derived.Test.YtlfmlodanoolhaaGreatDoorQ34
set_option linter.all false
set_option maxRecDepth 200000
set_option maxHeartbeats 0
namespace Go.Proofs.YtlfmlodanoolhaaGreatDoor
section
open Go Go.RowKit Go.Proofs.Tryz
def tTt:ByteArray:=⟨#[116]⟩
def tNn:ByteArray:=⟨#[78]⟩
def tMm:ByteArray:=⟨#[77]⟩
def tXx:ByteArray:=⟨#[120]⟩
def xZ(z:Int):X:=.mk 1 ⟨#[]⟩ 0 0 z []
def xSum:X:=.mk 6 ⟨#[]⟩ 14 0 0 [xNm tA,xNm tNn]
def iAs:Itm:=.mk 4 ⟨#[]⟩ ⟨#[]⟩ [xNm tY,xSum] [] [] [] [] []
def mMm:Mdl:=⟨tM,[⟨tNn,xZ 2⟩],[⟨tA,false,xNm tNn⟩,⟨tY,true,xNm tNn⟩],[iAs]⟩
def iIn:Itm:=.mk 7 tU tM [] [] [] [] [] [⟨tA,xZ 1⟩,⟨tY,xNm tY⟩]
def mTt:Mdl:=⟨tTt,[],[⟨tY,true,xZ 2⟩],[iIn]⟩
def fEx:List Mdl:=[mMm,mTt]
theorem iY:bo tNn:=⟨zD,zD,zD,zD⟩
theorem wN:bo tTt:=⟨zD,zD,zD,zD⟩
theorem wK:MayX xSum:=.mk _ ⟨.inr (.inr (.inl ⟨.inr (.inl rfl),rfl⟩)),.inr (.inl ⟨rfl,zD,zD⟩),.inl ⟨zD,rfl,rfl⟩,.inr ⟨by unfold dY;decide,rfl⟩⟩ (eN (may_nm.2 nf) (may_nm.2 iY))
theorem uC:MayI iAs:=.mk _ ⟨zD,zD,.inr ⟨zD,rfl⟩,.inr ⟨zD,rfl⟩,rfl,(λ_=>.inl rfl),.inr (.inr rfl),.inr (.inr rfl),.inr rfl,.inr ⟨rfl,rfl⟩⟩ (eN (may_nm.2 iU) wK) (λb a=>by cases a) (λb a=>by cases a) (λb a=>by cases a) (λb a=>by cases a) (λb a=>by cases a)
theorem uE:df mMm:=⟨qh,gl ⟨iY,il 2⟩,eN ⟨nf,may_nm.2 iY⟩ ⟨iU,may_nm.2 iY⟩,gl uC⟩
theorem uD:MayI iIn:=.mk _ ⟨zD,zD,.inl ⟨(show(7:Int)≠4/\(7:Int)≠5/\(7:Int)≠6/\(7:Int)≠8 by decide),uI⟩,.inl ⟨.inl rfl,qh⟩,rfl,(λc=>absurd c (show¬(7:Int)=4 by decide)),.inr (.inr rfl),.inr (.inr rfl),.inr rfl,.inl rfl⟩
 (λb a=>by cases a) (λb a=>by cases a) (λb a=>by cases a) (λb a=>by cases a) (λb a=>by cases a) (eN ⟨nf,il 1⟩ ⟨iU,may_nm.2 iU⟩)
theorem uF:df mTt:=⟨wN,(λb a=>by cases a),gl ⟨iU,il 2⟩,gl uD⟩
theorem xH:ee fEx=0:=by
 unfold ee;rw[if_neg zD,yes_iff.2 (show∀a,a∈fEx->df a from eN uE uF)];decide
theorem lD{z:Int}(h0:0<=z)(b:z<=2147483647):VX (xZ z):=.mk _ h0 (show z<18446744073709551616 by omega) (show(0:Nat)<4294967281 by decide) (λc a=>by cases a)
theorem vb:VX xSum:=.mk _ zD zD zD (eN (ic zD) (ic zD))
theorem tS:VI iAs:=.mk _ zD zD (eN (ic zD) vb) (λb a=>by cases a) (λb a=>by cases a) (λb a=>by cases a) (λb a=>by cases a) (λb a=>by cases a)
theorem tT:VI iIn:=.mk _ zD zD (λb a=>by cases a) (λb a=>by cases a) (λb a=>by cases a) (λb a=>by cases a) (λb a=>by cases a) (eN ⟨zD,lD zD zD⟩ ⟨zD,ic zD⟩)
theorem tn:∀a,a∈fEx->VM a:=eN ⟨zD,gl ⟨zD,lD zD zD⟩,eN ⟨zD,ic zD⟩ ⟨zD,ic zD⟩,gl tS⟩ ⟨zD,(λc b=>by cases b),gl ⟨zD,lD zD zD⟩,gl tT⟩
theorem eA{a b:ByteArray}(h:a.data≠b.data):¬a=b:=λe=>h (congrArg ByteArray.data e)
theorem nH:¬tA=tY:=eA zD
theorem kz:¬tY=tA:=eA zD
theorem lv:¬tM=tTt:=eA zD
theorem rH:cj mMm=[]:=by
 have a:cc mMm.items=[]:=by show cc [iAs]=[];simp[cc,ofI,iAs]
 unfold cj;rw[a];rfl
theorem rI:cj mTt=[tM]:=by
 have a:cc mTt.items=[tM]:=by show cc [iIn]=[tM];simp[cc,ofI,iIn]
 unfold cj;rw[a];exact iv zS
theorem zd:dW mMm:=by
 refine⟨?_,?_,?_⟩
 ·show cO [iAs];simp[cO,fp,iAs]
 ·show(ap [iAs]++([tA,tY]++[tNn])).Nodup;rw[show ap [iAs]=[] from by simp[ap,tnI,iAs,cD]];simp[nH,show¬tA=tNn from eA zD,show¬tY=tNn from eA zD]
 ·show bh _ [iAs];simp[bh,inI,iAs,bG]
theorem ze:dW mTt:=by
 refine⟨?_,?_,?_⟩
 ·show cO [iIn];simp[cO,fp,iIn]
 ·show(ap [iIn]++([tY]++[])).Nodup;rw[show ap [iIn]=[tU] from by simp[ap,tnI,iIn,cD]];simp[show¬tU=tY from eA zD]
 ·show bh _ [iIn];simp[bh,inI,iIn,bG]
theorem wO:dr fEx []=some mMm:=by
 refine jL (f:=fEx) (i:=0) zD (show ey [] mMm from⟨zS,λs a=>by rw[rH] at a;cases a⟩) (λd b c=>by omega)
theorem wQ:dr fEx [tM]=some mTt:=by
 refine jL (f:=fEx) (i:=1) zD (show ey [tM] mTt from⟨λa=>lv (y9a.1 a).symm,λs b=>by rw[rI] at b;exact b⟩) (λc d e=>?_);obtain rfl:c=0:=by omega
 exact λa=>a.1 (y9a.2 rfl)
theorem xd:dd fEx=[tM,tTt]:=by
 unfold dd;show dJ fEx 2 []=_;unfold dJ;rw[wO];show dJ fEx 1 [tM]=_;unfold dJ;rw[wQ];rfl
theorem jZ:cy fEx=0:=by
 unfold cy;rw[if_pos xH];have c:=od (f:=fEx) ⟨by show [tM,tTt].Nodup;simp[lv],eN zd ze⟩ (λd b s a=>by
  rcases List.mem_cons.1 b with rfl|b
  ·rw[rH] at a;cases a
  ·rw[List.mem_singleton.1 b,rI] at a;rw[List.mem_singleton.1 a];show tM∈[tM,tTt];simp)
 rw[c,xd];rfl
theorem lG:bd fEx tM=some mMm:=lF (f:=fEx) (i:=0) zD rfl (λc a b=>by omega)
theorem wi:bd fEx tTt=some mTt:=lF (f:=fEx) (i:=1) zD rfl (λa b c=>by
 obtain rfl:a=0:=by omega
 exact lv)
theorem wj:bd fEx tXx=none:=qN (by
 intro x a;rcases List.mem_cons.1 a with rfl|a
 ·exact eA zD
 ·rw[List.mem_singleton.1 a];exact eA zD)
theorem tD{z:Int}(h:bF z)(s:Sc):aJ s (xZ z)=.ok z:=oA (x:=xZ z) rfl rfl h (il z) s
theorem uf{z:Int}(h:bF z)(env:List (ByteArray×Int)):bC env (xZ z)=(z,0):=by
 unfold bC;rw[if_pos (show eu (xZ z)=0 from checkX_zero.2 ⟨by rw[dL];show(1:Nat)+0<=_;decide,by rw[hV];show(1:Nat)+0<=_;decide,il z⟩)];show aN _ (.mk 1 ⟨#[]⟩ 0 0 z [])=_;rw[qK];unfold cP;rw[if_pos h]
theorem vF{env:List (ByteArray×Int)}{a:ByteArray}{v:Int}(b:bo a)(c:bF v)(h:bI env a=some v):bC env (xNm a)=(v,0):=by
 unfold bC;rw[if_pos (checkX_zero.2 ⟨by rw[dL];show(1:Nat)+0<=_;decide,by rw[hV];show(1:Nat)+0<=_;decide,may_nm.2 b⟩),ft];show eI _ 2 a 0 0 0 []=_;unfold eI;rw[if_neg zD,if_pos rfl,h];show cP v=_;unfold cP;rw[if_pos c]
theorem rJ{s:Sc}{x:X}{v:Int}(h:bC s.env x=(v,0))(a:1<=v/\v<=64):co s x=.ok v:=by
 unfold co hJ;rw[h,if_neg (by simp only;omega)];rfl
theorem gi{n:Int}{m:Mk}(h:m.count+n<=65536):aX n m=.ok {m with count:=m.count+n}:=if_pos h
theorem ir{p:Prop} [Decidable p]{e:Int}(h:p):aQ p e=.ok ():=if_pos h
theorem mc{a:ByteArray}{w kind b:Int}{s:Sc}{m:Mk}(c:m.d.sigs.length<512)(h2:m.bits+w<=4096):cJ a w kind b s m=.ok ({s with sigs:=ay s.sigs a m.d.sigs.length},{m with bits:=m.bits+w,d:={m.d with sigs:=m.d.sigs++[⟨s.path++a,w,kind,b⟩]}}):=if_pos ⟨c,h2⟩
theorem mA{a:Bool}{l:List DT}{m:Mk}(h:m.d.procs.length<1024):ce a l m=.ok {m with d:={m.d with procs:=m.d.procs++[⟨a,l⟩]}}:=if_pos h
theorem rN{c:List Sg}{s:Sc}{b:ByteArray}{a:Int}(h:s.sigs b=some a)(d:1<=(aG c a).w):bX c s (xNm b)=.ok (a,(aG c a).w - 1,0):=by
 unfold bX dt;rw[show(xNm b).name=b from rfl,h];simp only[bind,Except.bind,pure,Except.pure];rw[if_pos (show(xNm b).op=2 from rfl),ir zO]
theorem pv{b:List Sg}{s:Sc}{c:ByteArray}{a:Int}(h:s.sigs c=some a)(e:1<=(aG b a).w)(d:dz false (aG b a).kind=true):cK b s false (xNm c)=.ok (a,(aG b a).w - 1,0):=by
 unfold cK;rw[ir (.inl rfl),rN h e];simp only[bind,Except.bind,pure,Except.pure];rw[ir d]
theorem vJ{c:List Sg}{s:Sc}{b:ByteArray}{a:Int}(d:bI s.env b=none)(h:s.sigs b=some a)(e:1<=(aG c a).w):aC c s (xNm b)=.ok (fo (a,(aG c a).w - 1,0),1):=by
 rw[dK];unfold dp;rw[if_neg (show¬(xNm b).op=1 from λh=>absurd h (show¬(2:Int)=1 by decide)),if_pos (show(xNm b).op=2 from rfl),show(xNm b).name=b from rfl,d];simp only;rw[rN h e];rfl
theorem vI{d:List Sg}{s:Sc}{a:ByteArray}{v:Int}(c:bI s.env a=some v):aC d s (xNm a)=.ok (bW 0 v,1):=by
 rw[dK];unfold dp;rw[if_neg (show¬(xNm a).op=1 from λb=>absurd b (show¬(2:Int)=1 by decide)),if_pos (show(xNm a).op=2 from rfl),show(xNm a).name=a from rfl,c]
theorem tE(a:List Sg)(s:Sc)(z:Int):aC a s (xZ z)=.ok (bW 0 z,1):=by
 rw[dK];unfold dp;rw[if_pos (show(xZ z).op=1 from rfl)];rfl
theorem wh{b:List Sg}{s:Sc}{a n:Int}(d:bI s.env tA=none)(h:s.sigs tA=some a)(e:1<=(aG b a).w)(c:bI s.env tNn=some n):aC b s xSum=.ok (.mk 5 0 0 0 0 0 14 [fo (a,(aG b a).w - 1,0),bW 0 n],3):=by
 rw[dK,show xSum.l=[xNm tA,xNm tNn] from rfl,List.map_cons,List.map_cons,List.map_nil,vJ d h e,vI c];unfold dp;rw[if_neg zD,if_neg zD,if_neg zD,if_neg zD,if_neg zD,if_neg zD];rfl
theorem qf(inst:Itm->Sc->Mk->Rs Mk)(s:Sc)(m:Mk){a b n:Int}(g:bI s.env tA=none)(c:bI s.env tNn=some n)(ha:s.sigs tA=some a)(e:s.sigs tY=some b)(i:1<=(aG m.d.sigs a).w)(j:1<=(aG m.d.sigs b).w)(f:dz false (aG m.d.sigs b).kind=true)
 (l:m.count+5<=65536) (h:m.d.procs.length<1024):∃k,bf inst [iAs] s m=.ok (s,{m with count:=m.count+5,d:={m.d with procs:=m.d.procs++[k]}}):=by
 refine⟨⟨false,[ed (b,(aG m.d.sigs b).w - 1,0) (.mk 5 0 0 0 0 0 14 [fo (a,(aG m.d.sigs a).w - 1,0),bW 0 n])]⟩,?_⟩;rw[bf,gi zO];simp only[bind,Except.bind,pure,Except.pure];unfold iAs;rw[aE,if_neg zD,if_neg zD,if_neg zD,if_pos rfl];simp only[bind,Except.bind,pure,Except.pure];unfold cI;rw[gi (by simp only;omega)];simp only[bind,Except.bind,pure,Except.pure];rw[show xAt [xNm tY,xSum] 0=xNm tY from rfl,show xAt [xNm tY,xSum] 1=xSum from rfl,pv e j f];simp only;unfold aF;rw[wh g ha i c];simp only[bind,Except.bind,pure,Except.pure];rw[gi (by simp only;omega)];simp only;rw[mA (by exact h)];simp only;rw[bf];simp only[show m.count+1+1+3=m.count+5 by omega]
theorem nU{T:ByteArray->Option Int}{n:Int}(a:T tNn=some n\/T tNn=none/\n=2)(f:1<=n/\n<=64)(p:ByteArray)(b:Prt->Int)(m:Mk)(h:m.d.sigs.length+2<=512)(h2:m.bits+n+n<=4096):
 dF mMm T p b m=.ok (⟨[(tNn,n)],ay (ay (λ_=>none) tA m.d.sigs.length) tY (m.d.sigs.length+1),p⟩,{m with bits:=m.bits+n+n,d:={m.d with sigs:=m.d.sigs++[⟨p++tA,n,b ⟨tA,false,xNm tNn⟩,0⟩]++[⟨p++tY,n,b ⟨tY,true,xNm tNn⟩,0⟩]}}):=by
 unfold dF mMm;simp only;have g:cp T [⟨tNn,xZ 2⟩] ⟨[],λ_=>none,p⟩=.ok ⟨[(tNn,n)],λ_=>none,p⟩:=by
  rw[cp];rcases a with a|⟨a,rfl⟩
  ·simp only[a,bind,Except.bind];rw[cp];rfl
  ·simp only[a];rw[tD zD];simp only[bind,Except.bind];rw[cp];rfl
 rw[g];have c:∀e:ByteArray->Option Int,co ⟨[(tNn,n)],e,p⟩ (xNm tNn)=.ok n:=λe=>rJ (vF iY ⟨zO,zO⟩ (by show(if tNn=tNn then some n else none)=_;rw[if_pos rfl])) f
 simp only[bind,Except.bind];rw[cm];simp only[bind,Except.bind];rw[c];simp only;rw[mc zO zO];simp only;rw[cm];simp only[bind,Except.bind];rw[c];simp only;rw[mc (by simp only[List.length_append,List.length_cons,List.length_nil];omega) (by simp only;omega)];simp only;rw[cm];simp only[List.length_append,List.length_cons,List.length_nil];rfl
theorem bR{α c:Type}{a:Rs α}{x:α}{f:α->Rs c}{b:Rs c}(h:a=.ok x)(k:f x=b):(a>>=f)=b:=by rw[h];exact k
theorem qI{ps:List (ByteArray×Int)}{T:ByteArray->Option Int}{n:Int}(ht:cG mMm ps (λ_=>none)=.ok T)(f:T tNn=some n\/T tNn=none/\n=2)(d:1<=n/\n<=64):∃c,aY fEx tM ps=(⟨[⟨tA,n,1,0⟩,⟨tY,n,2,0⟩],[c],[]⟩,0):=by
 obtain⟨c,g⟩:=qf (ci fEx fEx.length) ⟨[(tNn,n)],ay (ay (λ_=>none) tA 0) tY 1,⟨#[]⟩⟩ ⟨⟨[⟨tA,n,1,0⟩,⟨tY,n,2,0⟩],[],[]⟩,0,n+n⟩ (a:=0) (b:=1) (n:=n)
  (by show(if tNn=tA then some n else none)=none;rw[if_neg (eA zD)]) (by show(if tNn=tNn then some n else none)=_;rw[if_pos rfl])
  (by show(if tY=tA then some (1:Int) else if tA=tA then some 0 else none)=_;rw[if_neg kz,if_pos rfl]) (by show(if tY=tY then some (1:Int) else if tA=tY then some 0 else none)=_;rw[if_pos rfl])
  d.1 d.1 rfl (by show(0:Int)+5<=_;decide) (by show(0:Nat)<_;decide)
 refine⟨c,?_⟩;have e:bN fEx tM ps=.ok ⟨[⟨tA,n,1,0⟩,⟨tY,n,2,0⟩],[c],[]⟩:=by
  unfold bN;rw[if_neg (by rw[jZ];decide),lG];refine bR ht ?_;refine bR (x:=(⟨[(tNn,n)],ay (ay (λ_=>none) tA 0) tY 1,⟨#[]⟩⟩,⟨⟨[⟨tA,n,1,0⟩,⟨tY,n,2,0⟩],[],[]⟩,0,n+n⟩)) ((nU f d _ _ noMk zD (by show(0:Int)+n+n<=4096;omega)).trans ?_) ?_
  ·rw[gA,gA,show noMk.bits+n+n=n+n from by show(0:Int)+n+n=_;omega];rfl
  ·exact bR g rfl
 unfold aY;rw[e]
theorem xN:∃a,aY fEx tM []=(⟨[⟨tA,2,1,0⟩,⟨tY,2,2,0⟩],[a],[]⟩,0):=qI (T:=λ_=>none) rfl (.inr ⟨rfl,rfl⟩) zD
theorem xO:∃b,aY fEx tM [(tNn,8)]=(⟨[⟨tA,8,1,0⟩,⟨tY,8,2,0⟩],[b],[]⟩,0):=by
 refine qI (T:=ay (λ_=>none) tNn 8) ?_ (.inl (by unfold ay;rw[if_pos rfl])) zD;rw[cG];unfold aQ;rw[if_pos (show((λ_=>none:ByteArray->Option Int) tNn=none/\∃a,a∈mMm.params/\a.name=tNn) from⟨rfl,⟨tNn,xZ 2⟩,List.mem_singleton.2 rfl,rfl⟩)];simp only[bind,Except.bind];rw[if_pos zD];rfl
theorem xP:aY fEx tM [(tMm,1)]=(⟨[],[],[]⟩,82):=by
 have c:bN fEx tM [(tMm,1)]=.error 82:=by
  unfold bN;rw[if_neg (by rw[jZ];decide),lG];simp only;rw[cG];unfold aQ;rw[if_neg (show¬((λ_=>none:ByteArray->Option Int) tMm=none/\∃a,a∈mMm.params/\a.name=tMm) from λ⟨_,a,d,b⟩=>by
   rw[List.mem_singleton.1 d] at b;exact absurd (congrArg ByteArray.data b) zD)]
  rfl
 unfold aY;rw[c]
theorem vB:aY fEx tXx []=(⟨[],[],[]⟩,71):=by
 have a:bN fEx tXx []=.error 71:=by
  unfold bN;rw[if_neg (by rw[jZ];decide),wj]
 unfold aY;rw[a]
def tUA:ByteArray:=⟨#[117,46,97]⟩
def tUY:ByteArray:=⟨#[117,46,121]⟩
def tUd:ByteArray:=⟨#[117,46]⟩
theorem vm:bZ (λb=>∃a,a∈mMm.ports/\a.name=b) 81 (λx=>(.ok x:Rs X)) iIn.binds (λ_=>none)=.ok (ay (ay (λ_=>none) tA (xZ 1)) tY (xNm tY)):=by
 rw[show iIn.binds=[⟨tA,xZ 1⟩,⟨tY,xNm tY⟩] from rfl,bZ];unfold aQ;rw[if_pos (show((λ_=>none:ByteArray->Option X) tA=none/\∃a,a∈mMm.ports/\a.name=tA) from⟨rfl,⟨tA,false,xNm tNn⟩,List.mem_cons_self ..,rfl⟩)];simp only[bind,Except.bind];rw[bZ];unfold aQ;rw[if_pos (show(ay (λ_=>none) tA (xZ 1) tY=none/\∃a,a∈mMm.ports/\a.name=tY) from⟨by unfold ay;rw[if_neg nH],⟨tY,true,xNm tNn⟩,bj _ (y9a.2 rfl),rfl⟩)];rfl
theorem vA:∃p c q,aY fEx tTt []=(⟨[⟨tY,2,2,0⟩,⟨tUA,2,3,0⟩,⟨tUY,2,3,0⟩],[p,c,q],[]⟩,0):=by
 have d:(ay (ay (λ_=>none) tA (xZ 1)) tY (xNm tY)) tA=some (xZ 1):=by unfold ay;rw[if_neg kz,if_pos rfl]
 have e:(ay (ay (λ_=>none) tA (xZ 1)) tY (xNm tY)) tY=some (xNm tY):=by unfold ay;rw[if_pos rfl]
 obtain⟨f,l⟩:∃f,f=ay (ay (λ_=>none) tA (xZ 1)) tY (xNm tY):=⟨_,rfl⟩;have g:=vm;rw[<-l] at g d e
 obtain⟨c,o⟩:=qf (ci fEx 1) ⟨[(tNn,2)],ay (ay (λ_=>none) tA 1) tY 2,tUd⟩ ⟨⟨[⟨tY,2,2,0⟩,⟨tUA,2,3,0⟩,⟨tUY,2,3,0⟩],[⟨false,[.mk 1 1 1 0 [bW 0 1] []]⟩],[]⟩,3,6⟩ (a:=1) (b:=2) (n:=2)
  (by show(if tNn=tA then some (2:Int) else none)=none;rw[if_neg (eA zD)]) (by show(if tNn=tNn then some (2:Int) else none)=_;rw[if_pos rfl])
  (by show(if tY=tA then some (2:Int) else if tA=tA then some 1 else none)=_;rw[if_neg kz,if_pos rfl]) (by show(if tY=tY then some (2:Int) else if tA=tY then some 1 else none)=_;rw[if_pos rfl])
  zD zD rfl (by show(3:Int)+5<=_;decide) (by show(1:Nat)<_;decide)
 refine⟨⟨false,[.mk 1 1 1 0 [bW 0 1] []]⟩,c,⟨false,[ed (0,1,0) (.mk 2 0 0 2 1 0 0 [])]⟩,?_⟩;have hi:ci fEx 2 iIn ⟨[],ay (λ_=>none) tY 0,⟨#[]⟩⟩ ⟨⟨[⟨tY,2,2,0⟩],[],[]⟩,1,2⟩=.ok ⟨⟨[⟨tY,2,2,0⟩,⟨tUA,2,3,0⟩,⟨tUY,2,3,0⟩],[⟨false,[.mk 1 1 1 0 [bW 0 1] []]⟩,c,⟨false,[ed (0,1,0) (.mk 2 0 0 2 1 0 0 [])]⟩],[]⟩,10,6⟩:=by
  rw[ci,show iIn.of=tM from rfl,lG,Option.getD_some,show iIn.params=[] from rfl];refine bR (x:=λ_=>none) (by rw[bZ]) ?_;refine bR g ?_;refine bR (x:=()) ?_ ?_
  ·rw[show mMm.ports=[⟨tA,false,xNm tNn⟩,⟨tY,true,xNm tNn⟩] from rfl,dq];refine bR (ir (.inl (by simp only[d];rfl))) ?_;rw[dq];refine bR (ir (.inl (by simp only[e];rfl))) ?_;rw[dq]
  have m:(⟨#[]⟩:ByteArray)++iIn.name++tDot=tUd:=by rw[gA];decide
  refine bR (x:=(⟨[(tNn,2)],ay (ay (λ_=>none) tA 1) tY 2,tUd⟩,⟨⟨[⟨tY,2,2,0⟩,⟨tUA,2,3,0⟩,⟨tUY,2,3,0⟩],[],[]⟩,1,6⟩)) ((nU (n:=2) (.inr ⟨rfl,rfl⟩) zD _ _ _ (by show(1:Nat)+2<=512;decide) (by show(2:Int)+2+2<=4096;decide)).trans ?_) ?_
  ·rw[m,show tUd++tA=tUA from by decide,show tUd++tY=tUY from by decide];rfl
  have i:(ay (ay (λ_=>none) tA (1:Int)) tY 2) tA=some 1:=by unfold ay;rw[if_neg kz,if_pos rfl]
  have j:(ay (ay (λ_=>none) tA (1:Int)) tY 2) tY=some 2:=by unfold ay;rw[if_pos rfl]
  refine bR (x:=⟨⟨[⟨tY,2,2,0⟩,⟨tUA,2,3,0⟩,⟨tUY,2,3,0⟩],[⟨false,[.mk 1 1 1 0 [bW 0 1] []]⟩],[]⟩,3,6⟩) ?_ ?_
  ·rw[show mMm.ports=[⟨tA,false,xNm tNn⟩,⟨tY,true,xNm tNn⟩] from rfl,cq,if_neg zD];refine bR (x:=⟨⟨[⟨tY,2,2,0⟩,⟨tUA,2,3,0⟩,⟨tUY,2,3,0⟩],[],[]⟩,2,6⟩) (gi zD) ?_;refine bR (x:=(bW 0 1,⟨⟨[⟨tY,2,2,0⟩,⟨tUA,2,3,0⟩,⟨tUY,2,3,0⟩],[],[]⟩,3,6⟩)) ?_ ?_
   ·rw[d];exact bR (tE _ _ 1) (bR (gi zD) rfl)
   ·simp only;rw[i];refine bR (x:=⟨⟨[⟨tY,2,2,0⟩,⟨tUA,2,3,0⟩,⟨tUY,2,3,0⟩],[⟨false,[.mk 1 1 1 0 [bW 0 1] []]⟩],[]⟩,3,6⟩) (mA zD) ?_;rw[cq,if_pos rfl,cq]
  refine bR (by rw[show mMm.items=[iAs] from rfl];exact o) ?_;rw[show mMm.ports=[⟨tA,false,xNm tNn⟩,⟨tY,true,xNm tNn⟩] from rfl,cd];simp only[d];rw[cd];simp only[e];refine bR (x:=⟨⟨[⟨tY,2,2,0⟩,⟨tUA,2,3,0⟩,⟨tUY,2,3,0⟩],[⟨false,[.mk 1 1 1 0 [bW 0 1] []]⟩,c],[]⟩,9,6⟩) (gi (show(8:Int)+1<=65536 by decide)) ?_;refine bR (x:=(0,1,0)) (pv (a:=0) (by show(if tY=tY then some (0:Int) else none)=_;rw[if_pos rfl]) (show(1:Int)<=2 by decide) (show dz false 2=true by decide)) ?_;refine bR (x:=⟨⟨[⟨tY,2,2,0⟩,⟨tUA,2,3,0⟩,⟨tUY,2,3,0⟩],[⟨false,[.mk 1 1 1 0 [bW 0 1] []]⟩,c],[]⟩,10,6⟩) (gi (show(9:Int)+1<=65536 by decide)) ?_;rw[j];refine bR (mA (show(2:Nat)<1024 by decide)) ?_;rw[cd];rfl
 have k:bN fEx tTt []=.ok ⟨[⟨tY,2,2,0⟩,⟨tUA,2,3,0⟩,⟨tUY,2,3,0⟩],[⟨false,[.mk 1 1 1 0 [bW 0 1] []]⟩,c,⟨false,[ed (0,1,0) (.mk 2 0 0 2 1 0 0 [])]⟩],[]⟩:=by
  unfold bN;rw[if_neg (by rw[jZ];decide),wi];refine bR (x:=λ_=>none) rfl ?_;refine bR (x:=(⟨[],ay (λ_=>none) tY 0,⟨#[]⟩⟩,⟨⟨[⟨tY,2,2,0⟩],[],[]⟩,0,2⟩)) ?_ ?_
  ·refine bR (x:=⟨[],λ_=>none,⟨#[]⟩⟩) rfl ?_;refine bR (rJ (uf zD _) zD) ?_;refine bR (mc zD zD) ?_;show Except.ok _=_;rw[gA];rfl
  ·refine bR (x:=(⟨[],ay (λ_=>none) tY 0,⟨#[]⟩⟩,⟨⟨[⟨tY,2,2,0⟩,⟨tUA,2,3,0⟩,⟨tUY,2,3,0⟩],[⟨false,[.mk 1 1 1 0 [bW 0 1] []]⟩,c,⟨false,[ed (0,1,0) (.mk 2 0 0 2 1 0 0 [])]⟩],[]⟩,10,6⟩)) ?_ rfl;rw[show mTt.items=[iIn] from rfl,bf];refine bR (x:=⟨⟨[⟨tY,2,2,0⟩],[],[]⟩,1,2⟩) (gi zD) ?_;refine bR (x:=(⟨[],ay (λ_=>none) tY 0,⟨#[]⟩⟩,⟨⟨[⟨tY,2,2,0⟩,⟨tUA,2,3,0⟩,⟨tUY,2,3,0⟩],[⟨false,[.mk 1 1 1 0 [bW 0 1] []]⟩,c,⟨false,[ed (0,1,0) (.mk 2 0 0 2 1 0 0 [])]⟩],[]⟩,10,6⟩)) ?_ (by rw[bf]);have h:=hi;unfold iIn at h⊢;rw[aE,if_neg zD,if_neg zD,if_neg zD,if_neg zD,if_neg zD,if_neg zD,if_pos rfl];exact bR h rfl
 unfold aY;rw[k]
def FindG(l:List Sg)(s:ByteArray)(i:Int)(b:Bool):Prop:=b=true/\(∃a:Nat,∃e:a<l.length,i=a/\l[a].name=s/\∀c (f:c<l.length),c<a->¬l[c].name=s)\/b=false/\i=0/\∀d,d∈l->¬d.name=s
theorem FindG.one{l:List Sg}{s:ByteArray}{i j:Int}{b e:Bool}(h:FindG l s i b)(k:FindG l s j e):i=j/\b=e:=by
 rcases h with⟨rfl,n,g,rfl,a,o⟩|⟨rfl,rfl,a⟩<;>rcases k with⟨rfl,d,f,rfl,c,p⟩|⟨rfl,rfl,c⟩
 ·refine⟨?_,rfl⟩;by_cases h:n<d
  ·exact absurd a (p n g h)
  ·by_cases m:d<n
   ·exact absurd c (o d f m)
   ·omega
 ·exact absurd a (c _ (am g))
 ·exact absurd c (a _ (am f))
 ·exact⟨rfl,rfl⟩
def bu(k:Int):Nat->List Sg->List Int
 |_,[]=>[]
 |n,g::r=>if g.kind=k then(n:Int)::bu k (n+1) r else bu k (n+1) r
theorem jy(k:Int):∀(a:List Sg) (n:Nat) (b:List Sg),bu k n (a++b)=bu k n a++bu k (n+a.length) b
 |[],n,b=>rfl
 |c::a,n,b=>by
  have f:=jy k a (n+1) b;have e:n+(c::a).length=n+1+a.length:=by simp only[List.length_cons];omega
  rw[e];show(if c.kind=k then(n:Int)::bu k (n+1) (a++b) else bu k (n+1) (a++b))=(if c.kind=k then(n:Int)::bu k (n+1) a else bu k (n+1) a)++_;by_cases d:c.kind=k
  ·rw[if_pos d,if_pos d,f];rfl
  ·rw[if_neg d,if_neg d,f]
theorem Bo{k:Int}{l:List Sg}{i:Nat}(h:i<l.length):bu k 0 (l.take (i+1))=if l[i].kind=k then bu k 0 (l.take i)++[(i:Int)] else bu k 0 (l.take i):=by
 rw[List.take_succ_eq_append_getElem h,jy,List.length_take,Nat.min_eq_left (Nat.le_of_lt h),Nat.zero_add];show _++(if l[i].kind=k then [(i:Int)] else [])=_;by_cases a:l[i].kind=k
 ·rw[if_pos a,if_pos a]
 ·rw[if_neg a,if_neg a,List.append_nil]
theorem oG(k:Int):∀(l:List Sg) (n:Nat),(bu k n l).length<=l.length
 |[],_=>ac _
 |g::r,n=>by
  have:=oG k r (n+1);show(if g.kind=k then(n:Int)::bu k (n+1) r else bu k (n+1) r).length<=_;split<;>simp only[List.length_cons]<;>omega
end
section
open Go Go.RowKit Go.Proofs.Tryz
attribute [local go_sem] aW
abbrev sgC(x:Sg):List Value:=[.string x.name,.int .i64 x.w,.int .i64 x.kind,.int .u64 x.init]
theorem Sl.extG{w a:World}{B:Nat}{l:List Sg}{v:Value}(h:Sl RSg w B 4 l v)(b:Ext w a)(c:B<=w.heap.size):Sl RSg a B 4 l v:=
 h.keep (λe d=>b.cell zO) (ac _) (λ_ _ _ h=>h)
theorem eS{w:World}{B:Nat}{l:List Sg}{v:Value}(h:Sl RSg w B 4 l v):∃c d,v=.slice c l.length d/\∀a (e:a<l.length),∃b o,c=some ⟨b,o,none⟩/\b<B/\Cells w b (o+a*4) (sgC l[a]):=by
 obtain⟨c,d,rfl,-,k⟩:=h;refine⟨c,d,rfl,λa e=>?_⟩;obtain⟨b,o,f,ha,j,-,g,-,i⟩:=k a e;exact⟨b,o,ha,j,by rw[<-(show f=sgC l[a] from i)];exact g⟩
theorem Aq(s:Nat)(I:Enters Tryz.prog s)(P:Sg->Prop)(F:Value)(B:Nat)(l:List Sg)(w:World)
 (J:∀x,x∈l->∀(i:World),Ext w i->Calls Tryz.prog s #[.agg #[.string x.name,.int .i64 x.w,.int .i64 x.kind,.int .u64 x.init],F] i λe V=>e=.returned (.bool (yes (P x)))/\Ext i V)
 (v:Value) (H:Sl RSg w B 4 l v) (a0:B<=w.heap.size) (a5:l.length<=1000000000):
 Calls Tryz.prog 51 #[v,.func (.func s) #[] #[F]] w λe i=>Ext w i/\
  ((∃c,∃u:c<l.length,P l[c]/\(∀a,∀d:a<l.length,a<c->¬P l[a])/\e=.returned (.int .i64 c))\/((∀x,x∈l->¬P x)/\e=.returned (.int .i64 (-1)))):=by
 obtain⟨X,Z,rfl,L⟩:=eS H;have Q:=Hd L;have C:=Hd J;have a2:=I.o;clear J I L H
 go_in
 go_wp2_with fail
 go_loopw [8] (λc wr=>∃b:Nat,b<=l.length/\c=.int .i64 b/\(∀a,∀d:a<l.length,a<b->¬P l[a])/\Ext w wr) (λc _=>l.length - (intOf c).toNat)
 case atStart=>exact⟨0,aA _,rfl,λa d f=>absurd f zO,af _⟩
 case round=>
  obtain⟨b,a3,rfl,K,h⟩:=hrel;have j:=Hd K;clear K;by_cases z:b<l.length
  ·have k:=Hd (C.o l[b] (am z));obtain⟨Y,o,rfl,a1,G⟩:=Q.o b z;obtain⟨n,p,q,r⟩:=(G.ext h).get4;have E:=Hd h;have W:=Hd (show∀a,∀d:a<l.length,a<b+1->a≠b->¬P l[a] from λa d f a4=>j.o a d zO);have N:∃t:Sg,t=l[b]:=⟨_,rfl⟩;obtain⟨t,y⟩:=N;rw[<-y] at k n p q r;have D:=Hd y;clear G C h y;go_wp2_with fail
   refine(k.o _ E.o).mono ?_;rintro e a6 ⟨rfl,A⟩;have M:=Hd (E.o.trans A);by_cases g:P t
   ·rw[yes_iff.2 g];have m:=Hd (show∃c,∃u:c<l.length,P l[c]/\(∀a,∀d:a<l.length,a<c->¬P l[a])/\(b:Int)=c from⟨b,z,by rw[<-D.o];exact g,j.o,rfl⟩);clear g A k n p q r;go_wp2_with fail
    go_ret;obtain⟨c,u,R,S,T⟩:=m.o;exact⟨M.o,.inl ⟨c,u,R,S,by rw[T];rfl⟩⟩
   ·rw[yes_no.2 g];have O:=Hd (show∀a,∀d:a<l.length,a<b+1->¬P l[a] from λa d f=>if e:a=b then by subst e;rw[<-D.o];exact g else j.o a d zO);clear g A k n p q r;go_wp2_with fail
    go_roundw;case rel=>exact⟨b+1,zO,zN,O.o,M.o⟩
    case measure=>simp[intOf];omega
  ·have U:b=l.length:=by omega
   subst U;have m:=Hd (show∀x,x∈l->¬P x from λx h=>by obtain⟨a,f,rfl⟩:=List.getElem_of_mem h;exact j.o a f f);go_wp2_with fail
   go_ret;exact⟨h,.inr ⟨m.o,rfl⟩⟩
theorem BM:Enters Tryz.prog 52:=⟨λ_ _=>by kernel_rfl⟩
theorem Cd(x:Sg)(s:ByteArray)(p:Addr)(w:World)(g:w.cell? p=some (.string s))(f:p.block<w.heap.size):
 Calls Tryz.prog 52 #[.agg #[.string x.name,.int .i64 x.w,.int .i64 x.kind,.int .u64 x.init],.pointer (some p)] w λe q=>e=.returned (.bool (yes (x.name=s)))/\Ext w q:=by
 obtain⟨r,b,l,c,m,h,i,j,k⟩:=eo w (.string x.name) (.int .i64 x.w) (.int .i64 x.kind) (.int .u64 x.init) 57;have u:b.w.cell? p=some (.string s):=((c.trans b.ext).cell f).trans g;have d:=Hd (c.trans b.ext);clear c m g f;obtain⟨n,z,y,v⟩:=x;simp only at l h i j k⊢;by_cases a:n=s
 ·rw[yes_iff.2 a];subst a
  go_in
  go_wp2
  go_ret;exact⟨rfl,d.o⟩
 ·rw[yes_no.2 a];have t:=hT a;clear a
  go_in
  go_wp2
  go_ret;exact⟨rfl,d.o⟩
theorem rS(B:Nat)(l:List Sg)(s:ByteArray)(w:World)(I p n:Value)(k:Sl RSg w B 4 l I)(op:p.oneCell'=true)(W:n.oneCell'=true)(A:B<=w.heap.size)(O:l.length<=1000000000):
 Calls Tryz.prog 22 #[.agg #[I,p,n],.string s] w λe h=>∃a u,e=.returned (.tuple #[.int .i64 a,.bool u])/\FindG l s a u/\Ext w h:=by
 have q:=Hd k;obtain⟨r,y,rfl,-⟩:=eS k;obtain⟨Q,b,R,E,-,t,L,M⟩:=sU w (.slice r l.length y) p n 50;obtain⟨K,g,S,F,G,v⟩:=jf b.w (.string s) 9;have m:=b.ext.trans F;have H:=E.trans m;have t:=an t m;have f:=Hd (H.trans g.ext);have C:b.w.heap.size<K.heap.size:=by rw[G];omega
 have U:=@hmf_ Tryz.prog
 have j:=Hd (Aq 52 BM (λP=>P.name=s) (.pointer (some ⟨b.w.heap.size,0,none⟩)) B l g.w
  (λx d h D=>Cd x s ⟨b.w.heap.size,0,none⟩ h (v ⟨h,g.ext.trans D⟩) (aP C (g.ext.trans D).size))
  (.slice r l.length y) (q.o.extG f.o A) (ad A f.o.size) O)
 clear k E F G m H C q v L M
 go_in
 go_wp2_with fail
 go_at_call 51;refine j.o.mono ?_;rintro _ J ⟨d,(⟨a,N,c,z,rfl⟩|⟨c,rfl⟩)⟩
 ·have T:decide ((0:Int)<=(a:Int))=true:=decide_eq_true zO;have V:max (a:Int) 0=(a:Int):=by omega
  have i:=Hd (show FindG l s a true/\Ext w J from⟨.inl ⟨rfl,a,N,rfl,c,z⟩,f.o.trans d⟩);clear c z d j;go_wp2_with fail
  go_ret2;exact⟨_,_,rfl,i.o⟩
 ·have i:=Hd (show FindG l s 0 false/\Ext w J from⟨.inr ⟨rfl,rfl,c⟩,f.o.trans d⟩);clear c d j;go_wp2_with fail
  go_ret2;exact⟨_,_,rfl,i.o⟩
def RZ(z:Int)(a:List Value):Prop:=a=[.int .i64 z]
theorem us:(Tryz.prog.info? 3).map (λi=>(i.zero,i.size,i.bytes))=some (some (.int .i64 0),1,8):=by kernel_rfl
theorem Blk.flat_one{w:World}{g:Nat}{t:TypeId}{v:Value}(h:Blk w g t [v])(a:v.oneCell'=true):Flat w 1 (some ⟨g,0,none⟩) 1 [v]:=
 ⟨rfl,(by intro c b;rw[List.mem_singleton.1 b];exact a),λ_=>⟨_,_,rfl,h.cells⟩⟩
theorem mh(B:Nat)(l:List Sg)(b:Int)(w:World)(a1 r q:Value)(N:Sl RSg w B 4 l a1)(op:r.oneCell'=true)(e1:q.oneCell'=true)(d2:B<=w.heap.size)(e0:l.length<=1000000000):
 Calls Tryz.prog 24 #[.agg #[a1,r,q],.int .i64 b] w λe C=>∃v,e=.returned v/\Sl RZ C C.heap.size 1 (bu b 0 l) v/\Ext w C:=by
 obtain⟨G,H,rfl,X⟩:=eS N;have a8:=Hd X;obtain⟨b2,O,Z,n⟩:=eJ w (.slice G l.length H) r q 50;have d3:=O.symm;have e3:w.heap.size<b2.heap.size:=n.lt;have b1:=Hd Z;have a5:=Hd n;have t:=n.cell 0;simp only[List.getElem?_cons_zero] at t;clear N X O Z n
 go_in
 go_wp2_with fail
 go_loopw [4,10] (λc6 A wr=>∃a:Nat,∃o,a<=l.length/\A=.int .i64 a/\o=c6/\OwnL RZ (w.heap.size+1) 3 1 (bu b 0 (l.take a)) o wr/\Ext w wr/\Blk wr w.heap.size 50 [.slice G l.length H,r,q]) (λ_ A _=>l.length - (intOf A).toNat)
 case atStart=>exact⟨0,_,aA _,rfl,rfl,OwnL.none_,b1.o,a5.o⟩
 case round=>
  obtain⟨a,o,d7,rfl,rfl,V,Y,c⟩:=hrel;have t:=c.cell 0;simp only[List.getElem?_cons_zero] at t;have i:=Hd V;have j:=Hd Y;have D:=Hd c;have c0:w.heap.size+1<=wr.heap.size:=c.lt;clear V c Y;by_cases U:a<l.length
  ·obtain⟨m,e2,rfl,d6,M⟩:=a8.o a U;obtain⟨I,J,K,L⟩:=(M.ext j.o).get4;have z:=Bo (k:=b) U;have b6:(bu b 0 (l.take a)).length<=1000000000:=by
    have:=oG b (l.take a) 0;rw[List.length_take] at this;omega
   obtain⟨u,T⟩:∃u:Sg,u=l[a]:=⟨_,rfl⟩;rw[<-T] at I J K L z;have g:=Hd z;clear M T z;obtain⟨c3,c7,p,c2⟩:=u;simp only at I J K L g;obtain⟨E,P,a0,R⟩:=bM wr (.string c3) (.int .i64 c7) (.int .i64 p) (.int .u64 c2) 57;have d4:=P.symm;obtain⟨c8,c9,d0,d1⟩:=R.get4;have d:=Hd a0;clear P a0 R;obtain⟨c4,c5,b8⟩:=i.o.form;generalize b7:bu b 0 (l.take a)=lk at*;clear b7;subst b8;by_cases f:p=b
   ·have s:=Hd (g.o.trans (if_pos f));have d9:(p==b)=true:=beq_iff_eq.2 f;clear g;subst f;obtain⟨F,Q,h,S⟩:=aI E (.int .i64 a) 3;have d5:=Q.symm;have a9:=Hd (i.o.later (d.o.trans h));have b3:=Hd (j.o.trans (d.o.trans h));have a2:=Hd (D.o.ext (d.o.trans h));have a6:=Hd (show Flat F 1 (some ⟨E.heap.size,0,none⟩) 1 [.int .i64 a] from S.flat_one rfl);have a7:=Hd (show Fl RZ 1 [(a:Int)] [.int .i64 a] from Fl.one_ rfl (by intro e4 c1;rw[List.mem_singleton.1 c1];rfl) rfl);have b9:w.heap.size+1<=F.heap.size:=ad c0 (d.o.trans h).size;clear Q h S;go_wp2_with (at_builtin;refine kZ rfl _ _ 77 rfl (w.heap.size+1) 3 _ 1 8 us underlying77 rfl zD zD lk [(a:Int)] (.slice c4 lk.length c5) rfl a9.o _ 1 _ rfl a6.o a7.o b6 zS b9 ?_;intro e5 e6 W x y;have b4:=Hd (b3.o.grown x (λm c=>by have:=y m c;omega));have b0:=Hd W;have a3:=Hd (ox a2.o x (λm c=>by have:=y m c;omega));clear W x y)
    go_roundw;case rel=>exact⟨a+1,_,zO,zN,rfl,by rw[s.o];exact b0.o,b4.o,a3.o⟩
    case measure=>simp[intOf];omega
   ·have s:=Hd (g.o.trans (if_neg f));have d8:(p==b)=false:=beq_eq_false_iff_ne.2 f;clear g f;go_wp2_with fail
    go_roundw;case rel=>exact⟨a+1,_,zO,zN,rfl,by rw[s.o];exact i.o.later d.o,j.o.trans d.o,D.o.ext d.o⟩
    case measure=>simp[intOf];omega
  ·have b5:a=l.length:=by omega
   subst b5;have a4:=Hd (show Sl RZ wr wr.heap.size 1 (bu b 0 l) o from by have:=i.o.sl zD;rwa[List.take_length] at this);go_wp2_with fail
   go_ret;exact⟨_,rfl,a4.o,j.o⟩
theorem mW(x:DE):0<nE x:=by rw[ff];omega
theorem mX(x:DT):0<nT x:=by rw[eR];omega
theorem SlT.open_{α:Type}{T:TypeId}{R:α->List Value->Prop}{w:World}{f:Nat}{l:List α}{v:Value}(h:SlT T R w f l v):∃b d,v=.slice b l.length d/\∀k (e:k<l.length),∃c o a,b=some ⟨c,o,none⟩/\Cells w c (o+k*f) a/\(∀v,v∈a->v.oneCell'=true)/\R l[k] a:=by
 obtain⟨b,d,rfl,-,m⟩:=h;refine⟨b,d,rfl,λk e=>?_⟩;obtain⟨c,o,a,ha,-,-,i,g,j⟩:=m k e;exact⟨c,o,a,ha,i,g,j⟩
def SamE(x:DE):Prop:=∀(w:World) (a b:List Value),RE8 w x a->RE8 w x b->Calls Tryz.prog 18 #[.agg a.toArray,.agg b.toArray] w λe c=>e=.returned (.bool true)/\Ext w c
theorem po(l:List DE)(T:∀x,x∈l->SamE x)(w:World)(v u:Value)(a2:SlE8 w l v)(a1:SlE8 w l u)(f2:l.length<=1000000000):
 Calls Tryz.prog 49 #[v,u] w λe i=>e=.returned (.bool true)/\Ext w i:=by
 obtain⟨d3,b1,rfl,X⟩:=SlT.open_ a2;obtain⟨d4,b2,rfl,Y⟩:=SlT.open_ a1;have a7:=Hd X;have a8:=Hd Y;have N:=Hd T;clear a2 a1 X Y T
 go_in
 go_wp2_with fail
 go_loopw [5] (λp wr=>∃b:Nat,b<=l.length/\p=.int .i64 b/\Ext w wr) (λp _=>l.length - (intOf p).toNat)
 case atStart=>exact⟨0,aA _,rfl,af _⟩
 case round=>
  obtain⟨b,V,rfl,d⟩:=hrel;have O:=Hd d;by_cases r:b<l.length
  ·obtain⟨P,o,b3,rfl,R,b7,k⟩:=a7.o b r;obtain⟨Q,a5,b4,rfl,S,b8,m⟩:=a8.o b r;have b0:=Hd (λ(i:World) (j:Ext wr i)=>N.o l[b] (am r) i b3 b4 (RE8.keep (d.trans j).kp _ _ k) (RE8.keep (d.trans j).kp _ _ m));obtain⟨x,a3⟩:∃x,x=l[b]:=⟨_,rfl⟩;rw[<-a3] at k m;obtain⟨d2,rfl,Z⟩:=RE8_iff.1 k;obtain⟨u7,rfl,a0⟩:=RE8_iff.1 m;have f4:=Z.oneCell;have f3:=a0.oneCell;obtain⟨d6,d7,d8,d9,e0,e1,e2,e3⟩:=(R.ext d).later8;obtain⟨e4,e5,e6,e7,e8,e9,f0,f1⟩:=(S.ext d).later8;clear R b7 k S b8 m Z a0 a3 d N;go_wp2_with fail
   refine bK 10 (W:=wr) (Ext) (eqG [.slice (some ⟨P,o,none⟩) l.length b1,.int .i64 b,.pointer (some ⟨P,o+b*8,none⟩),.agg #[.int .i64 x.op,.int .i64 x.w,.int .u64 x.v,.int .i64 x.sig,.int .i64 x.hi,.int .i64 x.lo,.int .i64 x.n,d2],.slice (some ⟨Q,a5,none⟩) l.length b2,.int .i64 b,.pointer (some ⟨Q,a5+b*8,none⟩),.agg #[.int .i64 x.op,.int .i64 x.w,.int .u64 x.v,.int .i64 x.sig,.int .i64 x.hi,.int .i64 x.lo,.int .i64 x.n,u7],.bool true,.bool false]) (λ_ _=>False) (λ_=>true) zK (bq) zK zK ?_ (af _) (λp v w i j d=>dX j d) ?_ (λq d5 w c b9=>b9.elim) ?_
   ·exact⟨rfl,rfl,rfl,rfl,rfl,rfl,rfl,rfl,rfl,rfl,trivial⟩
   ·refine⟨?_,?_,?_,?_,?_,?_,?_,?_,?_,?_,trivial⟩;rotate_left 8
    ·intro q a6 h c f;obtain⟨g,rfl⟩:=ae h;have c3:=ab c 3 20 zK rfl;simp[eqG] at c3;have c7:=ab c 7 24 zK rfl;simp[eqG] at c7;clear c f;go_simp;refine(b0.o g.w g.ext).mono ?_;rintro _ f5 ⟨rfl,d⟩;go_simp;first|exact⟨_,rfl,d,rfl⟩|exact⟨d,rfl⟩|exact⟨_,rfl,rfl⟩|exact d
    all_goals
     intro q a6 h c f;obtain⟨g,rfl⟩:=ae h;try (have c8:=ab c 8 25 zD rfl;simp[eqG] at c8)
     try (have c0:=ab c 0 17 zD rfl;simp[eqG] at c0)
     try (have c1:=ab c 1 18 zD rfl;simp[eqG] at c1)
     try (have c2:=ab c 2 19 zD rfl;simp[eqG] at c2)
     try (have c4:=ab c 4 21 zD rfl;simp[eqG] at c4)
     try (have c5:=ab c 5 22 zD rfl;simp[eqG] at c5)
     try (have c6:=ab c 6 23 zD rfl;simp[eqG] at c6)
     have c9:=ag f 0 zK;simp at c9;have d1:=ag f 5 zK;simp at d1;have d0:=ag f 1 zK;simp at d0;clear c f;exact zA
   ·intro q a6 V;obtain⟨b5,rfl,h,U,a⟩:=V.fin (n:=27) rfl;obtain⟨g,rfl⟩:=ae h;have s:=a 0 zK;have t:=a 1 zK;have F:=a 2 zK;have G:=a 3 zK;have H:=a 4 zK;have I:=a 5 zK;have J:=a 6 zK;have K:=a 7 zK;have L:=a 8 zK;have M:=a 9 zK;have y:=a 10 zK;have z:=a 11 zK;have A:=a 12 zK;have B:=a 13 zK;have C:=a 14 zK;have D:=a 15 zK;have E:=a 16 zK;have a4:b5 26=.bool false:=U 9 26 rfl rfl;clear U a;simp at s t F G H I J K L M y z A B C D E;simp only[List.drop_succ_cons,List.drop_zero];simp[List.range,List.range.loop,s,t,F,G,H,I,J,K,L,M,y,z,A,B,C,D,E,a4];clear s t F G H I J K L M y z A B C D E a4;have a9:=Hd (O.o.trans g.ext);go_wp2_with fail
    go_roundw;case rel=>exact⟨b+1,zO,zN,a9.o⟩
    case measure=>simp[intOf];omega
  ·have b6:b=l.length:=by omega
   subst b6;go_wp2_with fail
   go_ret;exact⟨rfl,O.o⟩
theorem oX(x:DE):aa nE x.l<=1000000000->SamE x:=by
 induction x using DE.ind with
 |h x ih=>
  intro W w P Q t u;have V:=aw nE x.l mW;obtain⟨B,rfl,c⟩:=RE8_iff.1 t;obtain⟨u7,rfl,d⟩:=RE8_iff.1 u;have Y:=c.oneCell;have X:=d.oneCell;obtain⟨F,r,T,y,-,f,g,i,j,k,m,p,q⟩:=ln w (.int .i64 x.op) (.int .i64 x.w) (.int .u64 x.v) (.int .i64 x.sig) (.int .i64 x.hi) (.int .i64 x.lo) (.int .i64 x.n) B 60;obtain⟨G,s,U,z,-,H,I,J,K,L,M,N,O⟩:=ln r.w (.int .i64 x.op) (.int .i64 x.w) (.int .u64 x.v) (.int .i64 x.sig) (.int .i64 x.hi) (.int .i64 x.lo) (.int .i64 x.n) u7 60;have a:=r.ext.trans z;have b:=y.trans (a.trans s.ext);have f:=an f a;have g:=an g a;have i:=an i a;have j:=an j a;have k:=an k a;have m:=an m a;have p:=an p a;have q:=an q a;have C:=Hd (po x.l (λe A=>ih e A (by have R:=az nE x.l e A;have S:=ff e;omega)) s.w B u7 (SlE8.keep c b.kp) (SlE8.keep d b.kp) zO);have D:=Hd b;clear t u c d y z a b ih;go_enter func18,ntmps18;go_wp2_with (go_at_call 49;refine C.o.mono ?_;rintro _ Z ⟨rfl,E⟩)
  go_ret;exact⟨rfl,D.o.trans E⟩
def jI(l:List DT):Prop:=∀(w:World) (v a:Value),SlT6 w l v->SlT6 w l a->Calls Tryz.prog 50 #[v,a] w λe b=>e=.returned (.bool true)/\Ext w b
theorem pp(l:List DT)(E:∀x,x∈l->jI x.l)(D:∀x,x∈l->aa nE x.e<=1000000000)(e3:l.length<=1000000000):jI l:=by
 intro w v e9 K J;obtain⟨c0,c4,rfl,H⟩:=SlT.open_ K;obtain⟨c1,c5,rfl,I⟩:=SlT.open_ J;have Q:=Hd H;have R:=Hd I;have y:=Hd E;have u:=Hd D;clear K J H I E D;go_enter func50,ntmps50;go_wp2_with fail
 go_loopw [5] (λs wr=>∃a:Nat,a<=l.length/\s=.int .i64 a/\Ext w wr) (λs _=>l.length - (intOf s).toNat)
 case atStart=>exact⟨0,aA _,rfl,af _⟩
 case round=>
  obtain⟨a,e2,rfl,c⟩:=hrel;have S:=Hd c;by_cases f:a<l.length
  ·obtain⟨c2,o,c6,rfl,B,b6,i⟩:=Q.o a f;obtain⟨c3,e4,c7,rfl,C,b7,j⟩:=R.o a f;have h:=Hd (y.o l[a] (am f));have b5:=u.o l[a] (am f);obtain⟨x,M⟩:∃x,x=l[a]:=⟨_,rfl⟩;rw[<-M] at i j h b5;obtain⟨N,O,rfl,k,m⟩:=RT6_iff.1 i;obtain⟨u4,u5,rfl,n,p⟩:=RT6_iff.1 j;have e5:=k.oneCell;have e6:=m.oneCell;have e7:=n.oneCell;have e8:=p.oneCell;obtain⟨Z,a0,a1,a2,a3,a4⟩:=(B.ext c).get6;obtain⟨Y,F,q,G⟩:=aU wr (.int .i64 x.op) (.int .i64 x.sig) (.int .i64 x.hi) (.int .i64 x.lo) N O 73;have b2:=F.symm;obtain⟨a5,a6,a7,a8,a9,b0⟩:=(C.ext (c.trans q)).get6;obtain⟨b9,d,b3,r,-,d4,d5,d6,d7,d8,d9⟩:=cA Y (.int .i64 x.op) (.int .i64 x.sig) (.int .i64 x.hi) (.int .i64 x.lo) u4 u5 73;obtain⟨c8,c9,d0,d1,d2,d3⟩:=(G.ext r).later6;have b:=c.trans (q.trans (r.trans d.ext));have z:=Hd (po x.e (λt b8=>oX t (by have e0:=az nE x.e t b8;have e1:=ff t;omega)) d.w N u4 (SlE8.keep k b.kp) (SlE8.keep n b.kp) (by have:=aw nE x.e mW;omega));have W:=Hd (λ(P:World) (A:Ext d.w P)=>h.o P O u5 (SlT6.keep m (b.trans A).kp) (SlT6.keep p (b.trans A).kp));have V:=Hd b;clear B b6 i C b7 j k m n p M c q r F G b u y h;go_wp2_with fail
   go_at_call 49;refine z.o.mono ?_;rintro _ f0 ⟨rfl,g⟩;obtain⟨b1,rfl⟩:=ae (d.ext.trans g);have X:=Hd (W.o b1.w g);have T:=Hd (V.o.trans g);clear g z b2 b3 Z a0 a1 a2 a3 a4 a5 a6 a7 a8 a9 b0;go_wp2_with fail
   go_at_call 50;refine X.o.mono ?_;rintro _ f1 ⟨rfl,L⟩;have U:=Hd (T.o.trans L);clear L;go_wp2_with fail
   go_roundw;case rel=>exact⟨a+1,zO,zN,U.o⟩
   case measure=>simp[intOf];omega
  ·have b4:a=l.length:=by omega
   subst b4;go_wp2_with fail
   go_ret;exact⟨rfl,S.o⟩
theorem AP(x:DT):aa nT x.l+aa nE x.e<=1000000000->jI x.l:=by
 induction x using DT.ind with
 |h x ih=>
  intro g;have f:=aw nT x.l mX;exact pp x.l (λa b=>ih a b (by have c:=az nT x.l a b;have d:=eR a;omega)) (λa b=>by have c:=az nT x.l a b;have d:=eR a;omega) zO
theorem AO(l:List DT)(f:aa nT l<=1000000000):jI l:=by
 have e:=aw nT l mX;exact pp l (λa b=>AP a (by have c:=az nT l a b;have d:=eR a;omega)) (λa b=>by have c:=az nT l a b;have d:=eR a;omega) zO
theorem AN(l:List Pc)(w:World)(v u:Value)(a8:SlT 70 (RPc w) w 2 l v)(a7:SlT 70 (RPc w) w 2 l u)(a2:∀x,x∈l->aa nT x.l<=1000000000)(f7:l.length<=1000000000):
 Calls Tryz.prog 19 #[v,u] w λe p=>e=.returned (.bool true)/\Ext w p:=by
 obtain⟨f2,U,rfl,a5⟩:=SlT.open_ a8;obtain⟨f3,V,rfl,a6⟩:=SlT.open_ a7;have b3:=Hd a5;have b4:=Hd a6;have R:=Hd a2;clear a8 a7 a5 a6 a2
 go_in
 go_wp2_with fail
 go_loopw [5] (λq wr=>∃c:Nat,c<=l.length/\q=.int .i64 c/\Ext w wr) (λq _=>l.length - (intOf q).toNat)
 case atStart=>exact⟨0,aA _,rfl,af _⟩
 case round=>
  obtain⟨c,a4,rfl,f⟩:=hrel;have S:=Hd f;by_cases t:c<l.length
  ·obtain⟨g,o,f5,rfl,Y,c2,a0⟩:=b3.o c t;obtain⟨h,j,f6,rfl,Z,c3,a1⟩:=b4.o c t;have s:=R.o l[c] (am t);obtain⟨x,a9⟩:∃x,x=l[c]:=⟨_,rfl⟩;rw[<-a9] at a0 a1 s;obtain⟨b1,rfl,y⟩:=a0;obtain⟨u1,rfl,z⟩:=a1;have f8:=y.oneCell;have f9:=z.oneCell;have T:=Hd (λ(p:World) (a:Ext wr p)=>AO x.l s p b1 u1 (SlT6.keep y (f.trans a).kp) (SlT6.keep z (f.trans a).kp));obtain⟨b6,b7⟩:=(Y.ext f).later2;obtain⟨b8,b9⟩:=(Z.ext f).later2;obtain⟨X,g1⟩:=x;simp only at T b6 b7 b8 b9;clear Y c2 Z c3 y z a9 f R s;go_wp2_with fail
   refine bK 25 (W:=wr) (Ext) (eqG [.slice (some ⟨g,o,none⟩) l.length U,.int .i64 c,.pointer (some ⟨g,o+c*2,none⟩),.pointer (some ⟨g,o+c*2,none⟩),.bool X,.slice (some ⟨h,j,none⟩) l.length V,.int .i64 c,.pointer (some ⟨h,j+c*2,none⟩),.pointer (some ⟨h,j+c*2,none⟩),.bool X,.bool false,.bool false,.slice (some ⟨g,o,none⟩) l.length U,.int .i64 c,.pointer (some ⟨g,o+c*2,none⟩),.pointer (some ⟨g,o+c*2+1,none⟩),b1,.slice (some ⟨h,j,none⟩) l.length V,.int .i64 c,.pointer (some ⟨h,j+c*2,none⟩),.pointer (some ⟨h,j+c*2+1,none⟩),u1,.bool true,.bool false,.bool false]) (λ_ _=>False) (λ_=>true) zK (bq) zK zK ?_ (af _) (λq v w p a f=>dX a f) ?_ (λr f4 w b c4=>c4.elim) ?_
   ·exact⟨rfl,rfl,rfl,rfl,rfl,rfl,rfl,rfl,rfl,rfl,rfl,rfl,(λv w a=>a),(λv w a=>a),(λv w a=>a),(λv w a=>a),(λv w a=>a),(λv w a=>a),(λv w a=>a),(λv w a=>a),(λv w a=>a),(λv w a=>a),(λv w a=>a),(λv w a=>a),rfl,trivial⟩
   ·refine⟨?_,?_,?_,?_,?_,?_,?_,?_,?_,?_,?_,?_,?_,?_,?_,?_,?_,?_,?_,?_,?_,?_,?_,?_,?_,trivial⟩;rotate_left 22
    ·intro r b2 m b i;obtain⟨k,rfl⟩:=ae m;have d3:=ab b 16 33 zK rfl;simp[eqG] at d3;have d9:=ab b 21 38 zK rfl;simp[eqG] at d9;clear b i;go_simp;refine(T.o k.w k.ext).mono ?_;rintro _ g0 ⟨rfl,f⟩;go_simp;first|exact⟨_,rfl,f,rfl⟩|exact⟨f,rfl⟩|exact⟨_,rfl,rfl⟩|exact f
    all_goals
     intro r b2 m b i;obtain⟨k,rfl⟩:=ae m;try (have e0:=ab b 22 39 zD rfl;simp[eqG] at e0)
     try (have c8:=ab b 11 28 zD rfl;simp[eqG] at c8)
     try (have e1:=ab b 23 40 zD rfl;simp[eqG] at e1)
     try (have c5:=ab b 0 17 zD rfl;simp[eqG] at c5)
     try (have c6:=ab b 1 18 zD rfl;simp[eqG] at c6)
     try (have d7:=ab b 2 19 zD rfl;simp[eqG] at d7)
     try (have e2:=ab b 3 20 zD rfl;simp[eqG] at e2)
     try (have e4:=ab b 5 22 zD rfl;simp[eqG] at e4)
     try (have e5:=ab b 6 23 zD rfl;simp[eqG] at e5)
     try (have e6:=ab b 7 24 zD rfl;simp[eqG] at e6)
     try (have e7:=ab b 8 25 zD rfl;simp[eqG] at e7)
     try (have e3:=ab b 4 21 zD rfl;simp[eqG] at e3)
     try (have e8:=ab b 9 26 zD rfl;simp[eqG] at e8)
     try (have c7:=ab b 10 27 zD rfl;simp[eqG] at c7)
     try (have c9:=ab b 12 29 zD rfl;simp[eqG] at c9)
     try (have d0:=ab b 13 30 zD rfl;simp[eqG] at d0)
     try (have d1:=ab b 14 31 zD rfl;simp[eqG] at d1)
     try (have d2:=ab b 15 32 zD rfl;simp[eqG] at d2)
     try (have d4:=ab b 17 34 zD rfl;simp[eqG] at d4)
     try (have d5:=ab b 18 35 zD rfl;simp[eqG] at d5)
     try (have d6:=ab b 19 36 zD rfl;simp[eqG] at d6)
     try (have d8:=ab b 20 37 zD rfl;simp[eqG] at d8)
     have e9:=ag i 0 zK;simp at e9;have f1:=ag i 5 zK;simp at f1;have f0:=ag i 1 zK;simp at f0;clear b i;exact zA
   ·intro r b2 a4;obtain⟨c0,rfl,m,a3,d⟩:=a4.fin (n:=42) rfl;obtain⟨k,rfl⟩:=ae m;have A:=d 0 zK;have B:=d 1 zK;have J:=d 2 zK;have K:=d 3 zK;have L:=d 4 zK;have M:=d 5 zK;have N:=d 6 zK;have O:=d 7 zK;have P:=d 8 zK;have Q:=d 9 zK;have C:=d 10 zK;have D:=d 11 zK;have E:=d 12 zK;have F:=d 13 zK;have G:=d 14 zK;have H:=d 15 zK;have I:=d 16 zK;have b0:c0 41=.bool false:=a3 24 41 rfl rfl;clear a3 d;simp at A B J K L M N O P Q C D E F G H I;simp only[List.drop_succ_cons,List.drop_zero];simp[List.range,List.range.loop,A,B,J,K,L,M,N,O,P,Q,C,D,E,F,G,H,I,b0];clear A B J K L M N O P Q C D E F G H I b0;have b5:=Hd (S.o.trans k.ext);go_wp2_with fail
    go_roundw;case rel=>exact⟨c+1,zO,zN,b5.o⟩
    case measure=>simp[intOf];omega
  ·have c1:c=l.length:=by omega
   subst c1;go_wp2_with fail
   go_ret;exact⟨rfl,S.o⟩
structure DsnR(w:World)(d:Dsn)(vs vp vc:Value):Prop where
 sig:Sl RSg w w.heap.size 4 d.sigs vs
 prc:SlT 70 (RPc w) w 2 d.procs vp
 chk:SlT 62 (RCk w) w 9 d.chks vc
theorem SlT.ext{α:Type}{T:TypeId}{R g:α->List Value->Prop}{w e:World}{d:Nat}{l:List α}{v:Value}(h:SlT T R w d l v)(C:Ext w e)(t:∀f,f∈l->∀c,R f c->g f c):SlT T g e d l v:=by
 obtain⟨p,q,B,x,z⟩:=h;refine⟨p,q,B,x,λn j=>?_⟩;obtain⟨b,o,c,ha,k,y,s,r,u⟩:=z n j;have i:e.heap[b]? =w.heap[b]? :=C.heap k.lt;exact⟨b,o,c,ha,k.of_eq i,y,λm D A=>(el (a:=⟨b,o+n*d+m,none⟩) i).trans (s m D A),r,t _ (am j) _ u⟩
theorem DsnR.ext{w g:World}{d:Dsn}{f e c:Value}(h:DsnR w d f e c)(a:Ext w g):DsnR g d f e c:=
 ⟨h.sig.keep (λj i=>a.cell zO) a.size (λ_ _ _ h=>h),h.prc.ext a (λb _=>RPc.keep a.kp b),h.chk.ext a (λb _=>RCk.keep a.kp b)⟩
theorem DsnR.one{w:World}{d:Dsn}{c b a:Value}(h:DsnR w d c b a):c.oneCell'=true/\b.oneCell'=true/\a.oneCell'=true:=by
 obtain⟨e,f,rfl,-⟩:=eS h.sig;exact⟨rfl,h.prc.oneCell,h.chk.oneCell⟩
def fI(d:Dsn):Nat:=d.sigs.length+d.procs.length+wD d
theorem yZ(d:Dsn)(w:World)(m5 m4 m3 m2 m1 m0:Value)(c4:DsnR w d m5 m4 m3)(h2:DsnR w d m2 m1 m0)(d3:fI d<=1000000):
 Calls Tryz.prog 28 #[.agg #[m5,m4,m3],.agg #[m2,m1,m0]] w λe b7=>e=.returned (.bool true)/\Ext w b7:=by
 have m6:=Hd c4;have m7:=Hd h2;have o7:aa wP d.procs<=1000000:=by unfold fI wD at d3;omega
 have t1:aa wC d.chks<=1000000:=by unfold fI wD at d3;omega
 have s9:d.procs.length<=1000000:=by unfold fI at d3;omega
 have s8:d.sigs.length<=1000000:=by unfold fI at d3;omega
 have t0:d.chks.length<=1000000:=by have:=aw wC d.chks (λr6=>by unfold wC;omega);omega
 obtain⟨r0,l8,rfl,c7⟩:=eS c4.sig;obtain⟨r1,l9,rfl,c8⟩:=eS h2.sig;obtain⟨n4,d9,rfl,k9⟩:=SlT.open_ c4.chk;obtain⟨n5,e0,rfl,l0⟩:=SlT.open_ h2.chk;obtain⟨l4,l6,rfl⟩:=c4.prc.form;obtain⟨l5,l7,rfl⟩:=h2.prc.form;have n0:=Hd c7;have n1:=Hd c8;have m8:=Hd k9;have m9:=Hd l0;obtain⟨d2,k7,l2,e4⟩:=eJ w (.slice r0 d.sigs.length l8) (.slice l4 d.procs.length l6) (.slice n4 d.chks.length d9) 50;obtain⟨j9,k8,d4,e5⟩:=eJ d2 (.slice r1 d.sigs.length l9) (.slice l5 d.procs.length l7) (.slice n5 d.chks.length e0) 50;have o5:=k7.symm;have o6:=k8.symm;have d0:=Hd (e4.ext d4);have d7:=Hd e5;obtain⟨c1,c2,c3⟩:=(e4.ext d4).get3;obtain⟨b8,b9,c0⟩:=e5.get3;have q:=Hd (l2.trans d4);clear c4 h2 c7 c8 k9 l0 k7 k8 l2 d4 e4 e5
 go_in
 go_wp2_with fail
 go_loopw [5] (λl wr=>∃f:Nat,f<=d.sigs.length/\l=.int .i64 f/\Ext j9 wr) (λl _=>d.sigs.length - (intOf l).toNat)
 case atStart=>exact⟨0,aA _,rfl,af _⟩
 case round=>
  obtain⟨f,c6,rfl,g⟩:=hrel;have d1:=Hd g;clear o5 o6 c1 c2 c3 b8 b9 c0;obtain⟨c1,c2,c3⟩:=(d0.o.ext g).later3;obtain⟨b8,b9,c0⟩:=(d7.o.ext g).later3;obtain⟨k0,k1,k2⟩:=(d0.o.ext g).get3;by_cases b4:f<d.sigs.length
  ·obtain⟨i,o,rfl,-,r⟩:=n0.o f b4;obtain⟨j,m,rfl,-,s⟩:=n1.o f b4;obtain⟨x,c9⟩:∃x,x=d.sigs[f]:=⟨_,rfl⟩;rw[<-c9] at r s;obtain⟨n7,n8,n9,o0⟩:=(r.ext (q.o.trans g)).later4;obtain⟨o1,o2,o3,o4⟩:=(s.ext (q.o.trans g)).later4;clear r s c9 g;go_wp2_with fail
   refine bK 11 (W:=wr) (Ext) (eqG [.pointer (some ⟨w.heap.size,0,none⟩),.slice (some ⟨i,o,none⟩) d.sigs.length l8,.int .i64 f,.pointer (some ⟨i,o+f*4,none⟩),.agg #[.string x.name,.int .i64 x.w,.int .i64 x.kind,.int .u64 x.init],.pointer (some ⟨d2.heap.size,0,none⟩),.slice (some ⟨j,m,none⟩) d.sigs.length l9,.int .i64 f,.pointer (some ⟨j,m+f*4,none⟩),.agg #[.string x.name,.int .i64 x.w,.int .i64 x.kind,.int .u64 x.init],.bool false]) (λ_ _=>False) (λ_=>true) zK (bq) zK zK ?_ (af _) (λl v w b7 c g=>dX c g) ?_ (λb3 n6 w b e6=>e6.elim) ?_
   ·exact⟨rfl,rfl,rfl,rfl,rfl,rfl,rfl,rfl,rfl,rfl,rfl,trivial⟩
   ·refine⟨?_,?_,?_,?_,?_,?_,?_,?_,?_,?_,?_,trivial⟩
    all_goals
     intro b3 d6 k b h;obtain⟨p,rfl⟩:=ae k;try (have i6:=ab b 0 30 zD rfl;simp[eqG] at i6)
     try (have i7:=ab b 1 31 zD rfl;simp[eqG] at i7)
     try (have i8:=ab b 2 32 zD rfl;simp[eqG] at i8)
     try (have i9:=ab b 3 33 zD rfl;simp[eqG] at i9)
     try (have j1:=ab b 5 35 zD rfl;simp[eqG] at j1)
     try (have j2:=ab b 6 36 zD rfl;simp[eqG] at j2)
     try (have j3:=ab b 7 37 zD rfl;simp[eqG] at j3)
     try (have j4:=ab b 8 38 zD rfl;simp[eqG] at j4)
     try (have j0:=ab b 4 34 zD rfl;simp[eqG] at j0)
     try (have j5:=ab b 9 39 zD rfl;simp[eqG] at j5)
     have j6:=ag h 2 zK;simp at j6;have q8:=ag h 5 zK;simp at q8;have j7:=ag h 3 zK;simp at j7;clear b h;exact zA
   ·intro b3 d6 c6;obtain⟨e1,rfl,k,c5,a⟩:=c6.fin (n:=82) rfl;obtain⟨p,rfl⟩:=ae k;have t:=a 0 zK;have u:=a 1 zK;have I:=a 2 zK;have T:=a 3 zK;have U:=a 4 zK;have a3:=a 5 zK;have a4:=a 6 zK;have a5:=a 7 zK;have a9:=a 8 zK;have b2:=a 9 zK;have y:=a 10 zK;have z:=a 11 zK;have A:=a 12 zK;have B:=a 13 zK;have C:=a 14 zK;have D:=a 15 zK;have E:=a 16 zK;have F:=a 17 zK;have G:=a 18 zK;have H:=a 19 zK;have J:=a 20 zK;have K:=a 21 zK;have L:=a 22 zK;have M:=a 23 zK;have N:=a 24 zK;have O:=a 25 zK;have P:=a 26 zK;have Q:=a 27 zK;have R:=a 28 zK;have S:=a 29 zK;have V:=a 41 zK;have X:=a 42 zK;have Y:=a 43 zK;have Z:=a 44 zK;have a0:=a 45 zK;have a1:=a 46 zK;have a2:=a 47 zK;have f7:=a 48 zK;have f8:=a 49 zK;have f9:=a 50 zK;have g0:=a 51 zK;have g1:=a 52 zK;have g2:=a 53 zK;have g3:=a 54 zK;have g4:=a 55 zK;have g5:=a 56 zK;have g6:=a 57 zK;have g7:=a 58 zK;have g8:=a 59 zK;have g9:=a 60 zK;have h0:=a 61 zK;have h1:=a 62 zK;have h3:=a 63 zK;have h4:=a 64 zK;have h5:=a 65 zK;have h6:=a 66 zK;have h7:=a 67 zK;have h8:=a 68 zK;have h9:=a 69 zK;have i0:=a 70 zK;have i1:=a 71 zK;have i2:=a 72 zK;have i3:=a 73 zK;have i4:=a 74 zK;have i5:=a 75 zK;have b6:=a 76 zK;have a6:=a 77 zK;have a7:=a 78 zK;have a8:=a 79 zK;have b0:=a 80 zK;have b1:=a 81 zK;have b5:e1 40=.bool false:=c5 10 40 rfl rfl;clear c5 a;simp at t u I T U a3 a4 a5 a9 b2 y z A B C D E F G H J K L M N O P Q R S V X Y Z a0 a1 a2 f7 f8 f9 g0 g1 g2 g3 g4 g5 g6 g7 g8 g9 h0 h1 h3 h4 h5 h6 h7 h8 h9 i0 i1 i2 i3 i4 i5 b6 a6 a7 a8 b0 b1;simp only[List.drop_succ_cons,List.drop_zero];simp[List.range,List.range.loop,t,u,I,T,U,a3,a4,a5,a9,b2,y,z,A,B,C,D,E,F,G,H,J,K,L,M,N,O,P,Q,R,S,V,X,Y,Z,a0,a1,a2,f7,f8,f9,g0,g1,g2,g3,g4,g5,g6,g7,g8,g9,h0,h1,h3,h4,h5,h6,h7,h8,h9,i0,i1,i2,i3,i4,i5,b6,a6,a7,a8,b0,b1,b5];clear t u I T U a3 a4 a5 a9 b2 y z A B C D E F G H J K L M N O P Q R S V X Y Z a0 a1 a2 f7 f8 f9 g0 g1 g2 g3 g4 g5 g6 g7 g8 g9 h0 h1 h3 h4 h5 h6 h7 h8 h9 i0 i1 i2 i3 i4 i5 b6 a6 a7 a8 b0 b1 b5;have d8:=Hd (d1.o.trans p.ext);go_wp2_with fail
    go_roundw;case rel=>exact⟨f+1,zO,zN,d8.o⟩
    case measure=>simp[intOf];omega
  ·clear g;go_wp2_with fail
   go_loopw [6] (λl wr=>∃f:Nat,f<=d.chks.length/\l=.int .i64 f/\Ext j9 wr) (λl _=>d.chks.length - (intOf l).toNat)
   case atStart=>exact⟨0,aA _,rfl,d1.o⟩
   case round=>
    obtain⟨f,c6,rfl,g⟩:=hrel;have d1:=Hd g;clear c1 c2 c3 b8 b9 c0 k0 k1 k2;obtain⟨c1,c2,c3⟩:=(d0.o.ext g).later3;obtain⟨b8,b9,c0⟩:=(d7.o.ext g).later3;obtain⟨k0,k1,k2⟩:=(d0.o.ext g).get3;obtain⟨r3,r4,r5⟩:=(d7.o.ext g).get3;by_cases b4:f<d.chks.length
    ·obtain⟨i,o,k3,rfl,r,-,k5⟩:=m8.o f b4;obtain⟨j,m,k4,rfl,s,-,k6⟩:=m9.o f b4;have l1:=az wC d.chks d.chks[f] (am b4);obtain⟨x,c9⟩:∃x,x=d.chks[f]:=⟨_,rfl⟩;rw[<-c9] at k5 k6 l1;obtain⟨k3,rfl,e2⟩:=k5;obtain⟨k4,rfl,e3⟩:=k6;have o8:nE x.e<=1000000:=by have s7:wC x=1+nE x.e:=rfl;omega
     have j8:=Hd (λ(b7:World) (c:Ext wr b7)=>oX x.e (by have:=ff x.e;omega) b7 k3 k4 (RE8.keep ((q.o.trans g).trans c).kp _ _ e2) (RE8.keep ((q.o.trans g).trans c).kp _ _ e3));obtain⟨l3,x⟩:=x;obtain⟨r2,rfl,c7⟩:=RE8_iff.1 e2;obtain⟨u7,rfl,c8⟩:=RE8_iff.1 e3;have t3:=c7.oneCell;have t2:=c8.oneCell;simp only at j8 r s;obtain⟨n7,n8,n9,o0,r7,r8,r9,s0,s1⟩:=(r.ext (q.o.trans g)).later9;obtain⟨o1,o2,o3,o4,s2,s3,s4,s5,s6⟩:=(s.ext (q.o.trans g)).later9;clear r s c9 g e2 e3 c7 c8 l1 o8;go_wp2_with fail
     refine bK 29 (W:=wr) (Ext) (eqG [.pointer (some ⟨w.heap.size,2,none⟩),.slice (some ⟨i,o,none⟩) d.chks.length d9,.int .i64 f,.pointer (some ⟨i,o+f*9,none⟩),.pointer (some ⟨i,o+f*9,none⟩),.string l3,.pointer (some ⟨d2.heap.size,2,none⟩),.slice (some ⟨j,m,none⟩) d.chks.length e0,.int .i64 f,.pointer (some ⟨j,m+f*9,none⟩),.pointer (some ⟨j,m+f*9,none⟩),.string l3,.bool false,.bool false,.pointer (some ⟨w.heap.size,2,none⟩),.slice (some ⟨i,o,none⟩) d.chks.length d9,.int .i64 f,.pointer (some ⟨i,o+f*9,none⟩),.pointer (some ⟨i,o+f*9+1,none⟩),.agg #[.int .i64 x.op,.int .i64 x.w,.int .u64 x.v,.int .i64 x.sig,.int .i64 x.hi,.int .i64 x.lo,.int .i64 x.n,r2],.pointer (some ⟨d2.heap.size,2,none⟩),.slice (some ⟨j,m,none⟩) d.chks.length e0,.int .i64 f,.pointer (some ⟨j,m+f*9,none⟩),.pointer (some ⟨j,m+f*9+1,none⟩),.agg #[.int .i64 x.op,.int .i64 x.w,.int .u64 x.v,.int .i64 x.sig,.int .i64 x.hi,.int .i64 x.lo,.int .i64 x.n,u7],.bool true,.bool false,.bool false]) (λ_ _=>False) (λ_=>true) zK (bq) zK zK ?_ (af _) (λl v w b7 c g=>dX c g) ?_ (λb3 n6 w b e6=>e6.elim) ?_
     ·exact⟨rfl,rfl,rfl,rfl,rfl,rfl,rfl,rfl,rfl,rfl,rfl,rfl,rfl,rfl,(λv w c=>c),(λv w c=>c),(λv w c=>c),(λv w c=>c),(λv w c=>c),(λv w c=>c),(λv w c=>c),(λv w c=>c),(λv w c=>c),(λv w c=>c),(λv w c=>c),(λv w c=>c),(λv w c=>c),(λv w c=>c),rfl,trivial⟩
     ·refine⟨?_,?_,?_,?_,?_,?_,?_,?_,?_,?_,?_,?_,?_,?_,?_,?_,?_,?_,?_,?_,?_,?_,?_,?_,?_,?_,?_,?_,?_,trivial⟩;rotate_left 26
      ·intro b3 d6 k b h;obtain⟨p,rfl⟩:=ae k;have p9:=ab b 19 67 zK rfl;simp[eqG] at p9;have q5:=ab b 25 73 zK rfl;simp[eqG] at q5;clear b h;go_simp;refine(j8.o p.w p.ext).mono ?_;rintro _ t5 ⟨rfl,g⟩;go_simp;first|exact⟨_,rfl,g,rfl⟩|exact⟨g,rfl⟩|exact⟨_,rfl,rfl⟩|exact g
      all_goals
       intro b3 d6 k b h;obtain⟨p,rfl⟩:=ae k;try (have q6:=ab b 26 74 zD rfl;simp[eqG] at q6)
       try (have p3:=ab b 13 61 zD rfl;simp[eqG] at p3)
       try (have q7:=ab b 27 75 zD rfl;simp[eqG] at q7)
       try (have i6:=ab b 0 48 zD rfl;simp[eqG] at i6)
       try (have i7:=ab b 1 49 zD rfl;simp[eqG] at i7)
       try (have i8:=ab b 2 50 zD rfl;simp[eqG] at i8)
       try (have i9:=ab b 3 51 zD rfl;simp[eqG] at i9)
       try (have j0:=ab b 4 52 zD rfl;simp[eqG] at j0)
       try (have j2:=ab b 6 54 zD rfl;simp[eqG] at j2)
       try (have j3:=ab b 7 55 zD rfl;simp[eqG] at j3)
       try (have j4:=ab b 8 56 zD rfl;simp[eqG] at j4)
       try (have j5:=ab b 9 57 zD rfl;simp[eqG] at j5)
       try (have p0:=ab b 10 58 zD rfl;simp[eqG] at p0)
       try (have j1:=ab b 5 53 zD rfl;simp[eqG] at j1)
       try (have p1:=ab b 11 59 zD rfl;simp[eqG] at p1)
       try (have p2:=ab b 12 60 zD rfl;simp[eqG] at p2)
       try (have p4:=ab b 14 62 zD rfl;simp[eqG] at p4)
       try (have p5:=ab b 15 63 zD rfl;simp[eqG] at p5)
       try (have p6:=ab b 16 64 zD rfl;simp[eqG] at p6)
       try (have p7:=ab b 17 65 zD rfl;simp[eqG] at p7)
       try (have p8:=ab b 18 66 zD rfl;simp[eqG] at p8)
       try (have q0:=ab b 20 68 zD rfl;simp[eqG] at q0)
       try (have q1:=ab b 21 69 zD rfl;simp[eqG] at q1)
       try (have q2:=ab b 22 70 zD rfl;simp[eqG] at q2)
       try (have q3:=ab b 23 71 zD rfl;simp[eqG] at q3)
       try (have q4:=ab b 24 72 zD rfl;simp[eqG] at q4)
       have j6:=ag h 2 zK;simp at j6;have q9:=ag h 6 zK;simp at q9;have j7:=ag h 3 zK;simp at j7;clear b h;exact zA
     ·intro b3 d6 c6;obtain⟨e1,rfl,k,c5,a⟩:=c6.fin (n:=82) rfl;obtain⟨p,rfl⟩:=ae k;have t:=a 0 zK;have u:=a 1 zK;have I:=a 2 zK;have T:=a 3 zK;have U:=a 4 zK;have a3:=a 5 zK;have a4:=a 6 zK;have a5:=a 7 zK;have a9:=a 8 zK;have b2:=a 9 zK;have y:=a 10 zK;have z:=a 11 zK;have A:=a 12 zK;have B:=a 13 zK;have C:=a 14 zK;have D:=a 15 zK;have E:=a 16 zK;have F:=a 17 zK;have G:=a 18 zK;have H:=a 19 zK;have J:=a 20 zK;have K:=a 21 zK;have L:=a 22 zK;have M:=a 23 zK;have N:=a 24 zK;have O:=a 25 zK;have P:=a 26 zK;have Q:=a 27 zK;have R:=a 28 zK;have S:=a 29 zK;have e7:=a 30 zK;have e8:=a 31 zK;have e9:=a 32 zK;have f0:=a 33 zK;have f1:=a 34 zK;have f2:=a 35 zK;have f3:=a 36 zK;have f4:=a 37 zK;have f5:=a 38 zK;have f6:=a 39 zK;have b5:=a 40 zK;have V:=a 41 zK;have X:=a 42 zK;have Y:=a 43 zK;have Z:=a 44 zK;have a0:=a 45 zK;have a1:=a 46 zK;have a2:=a 47 zK;have a6:=a 77 zK;have a7:=a 78 zK;have a8:=a 79 zK;have b0:=a 80 zK;have b1:=a 81 zK;have b6:e1 76=.bool false:=c5 28 76 rfl rfl;clear c5 a;simp at t u I T U a3 a4 a5 a9 b2 y z A B C D E F G H J K L M N O P Q R S e7 e8 e9 f0 f1 f2 f3 f4 f5 f6 b5 V X Y Z a0 a1 a2 a6 a7 a8 b0 b1;simp only[List.drop_succ_cons,List.drop_zero];simp[List.range,List.range.loop,t,u,I,T,U,a3,a4,a5,a9,b2,y,z,A,B,C,D,E,F,G,H,J,K,L,M,N,O,P,Q,R,S,e7,e8,e9,f0,f1,f2,f3,f4,f5,f6,b5,V,X,Y,Z,a0,a1,a2,a6,a7,a8,b0,b1,b6];clear t u I T U a3 a4 a5 a9 b2 y z A B C D E F G H J K L M N O P Q R S e7 e8 e9 f0 f1 f2 f3 f4 f5 f6 b5 V X Y Z a0 a1 a2 a6 a7 a8 b0 b1 b6;have d8:=Hd (d1.o.trans p.ext);go_wp2_with fail
      go_roundw;case rel=>exact⟨f+1,zO,zN,d8.o⟩
      case measure=>simp[intOf];omega
    ·have d5:=q.o.trans g;have n3:=Hd (AN d.procs wr (.slice l4 d.procs.length l6) (.slice l5 d.procs.length l7) (m6.o.ext d5).prc (m7.o.ext d5).prc (λx g=>by have:=az wP d.procs x g;unfold wP at this o7;omega) zO);have n2:=Hd d5;clear g d5 c1 c2 c3 b8 b9 c0;go_wp2_with fail
     go_at_call 19;refine n3.o.mono ?_;rintro _ t4 ⟨rfl,o9⟩;go_wp2_with fail
     go_ret;exact⟨rfl,n2.o.trans o9⟩
def jC(l:List DE):Prop:=∀(w:World) (v:Value) (a:Int),SlE8 w l v->(aa nE l:Int)<=a->a<=1000000->Calls Tryz.prog 48 #[v,.int .i64 a] w λe b=>e=.returned (.int .i64 (aa nE l))/\Ext w b
theorem jv{α:Type}(f:α->Nat)(l:List α){k:Nat}(h:k<l.length):aa f (l.take (k+1))=aa f (l.take k)+f l[k]:=by
 rw[List.take_succ_eq_append_getElem h,mu]
theorem oV(l:List DE)(r:∀x,x∈l->jC x.l):jC l:=by
 intro w v M y a5 a7;have a6:=aw nE l mW;obtain⟨N,P,rfl,t⟩:=SlT.open_ y;have E:=Hd t;have C:=Hd r;clear y t r;go_enter func48,ntmps48;go_wp2_with fail
 go_loopw [5,6] (λn k wr=>∃a:Nat,a<=l.length/\k=.int .i64 a/\n=.int .i64 (aa nE (l.take a))/\Ext w wr) (λ_ k _=>l.length - (intOf k).toNat)
 case atStart=>exact⟨0,aA _,rfl,rfl,af _⟩
 case round=>
  obtain⟨a,a4,rfl,rfl,c⟩:=hrel;have m:=Hd c;have K:=bw nE l a;have h:decide ((aa nE (l.take a):Int)<=M)=true:=decide_eq_true zO;by_cases i:a<l.length
  ·obtain⟨O,o,Q,rfl,q,-,g⟩:=E.o a i;have b:=jv nE l i;have L:=bw nE l (a+1);have p:=Hd (C.o l[a] (am i));obtain⟨x,A⟩:∃x,x=l[a]:=⟨_,rfl⟩;rw[<-A] at g b p;have J:=ff x;obtain⟨a8,rfl,u⟩:=RE8_iff.1 g;obtain⟨R,S,T,U,V,W,X,Y⟩:=(q.ext c).get8;have F:=Hd (SlE8.keep u c.kp);have G:=Hd b;obtain⟨d,j⟩:∃d,d=aa nE (l.take a):=⟨_,rfl⟩;obtain⟨e,s⟩:∃e,e=aa nE x.l:=⟨_,rfl⟩;rw[<-j] at h b K⊢;have a3:d+1+e<=aa nE l:=by omega
   have f:=Hd s;have D:=Hd j;clear q g u A c j s b J L;go_wp2_with fail
   go_at_call 48;try simp(disch:=omega) only[IntWalk.i64_in]
   refine(p.o _ _ _ F.o (by have:=f.o;omega) zO).mono ?_;rintro _ a9 ⟨rfl,z⟩;rw[<-f.o];have H:=Hd (m.o.trans z);have B:=Hd (show(aa nE (l.take (a+1)):Int)=(d:Int)+1+(e:Int) by have Z:=G.o;have a0:=D.o;have a1:=f.o;have a2:=ff x;omega);clear z h;go_wp2_with fail
   go_roundw;case rel=>exact⟨a+1,zO,zN,by rw[B.o],H.o⟩
   case measure=>simp[intOf];omega
  ·have I:a=l.length:=by omega
   subst I;rw[List.take_length] at h⊢;go_wp2_with fail
   go_ret;exact⟨rfl,m.o⟩
theorem AM(x:DE):jC x.l:=by
 induction x using DE.ind with
 |h x ih=>exact oV x.l ih
theorem oW(l:List DE):jC l:=oV l λx _=>AM x
def jA(l:List DT):Prop:=∀(w:World) (v:Value) (a:Int),SlT6 w l v->(aa nT l:Int)<=a->a<=1000000->Calls Tryz.prog 47 #[v,.int .i64 a] w λe b=>e=.returned (.int .i64 (aa nT l))/\Ext w b
theorem rq(l:List DT)(E:∀x,x∈l->jA x.l):jA l:=by
 intro w v a2 K b4 b6;have b5:=aw nT l mX;obtain⟨a3,a5,rfl,H⟩:=SlT.open_ K;have R:=Hd H;have P:=Hd E;clear K H E;go_enter func47,ntmps47;go_wp2_with fail
 go_loopw [5,6] (λn s wr=>∃a:Nat,a<=l.length/\s=.int .i64 a/\n=.int .i64 (aa nT (l.take a))/\Ext w wr) (λ_ s _=>l.length - (intOf s).toNat)
 case atStart=>exact⟨0,aA _,rfl,rfl,af _⟩
 case round=>
  obtain⟨a,b3,rfl,rfl,b⟩:=hrel;have t:=Hd b;have a0:=bw nT l a;have p:decide ((aa nT (l.take a):Int)<=a2)=true:=decide_eq_true zO;by_cases q:a<l.length
  ·obtain⟨a4,o,a6,rfl,k,-,m⟩:=R.o a q;have c:=jv nT l q;have a1:=bw nT l (a+1);have u:=Hd (P.o l[a] (am q));obtain⟨x,M⟩:∃x,x=l[a]:=⟨_,rfl⟩;rw[<-M] at m c u;have Z:=eR x;obtain⟨b7,b8,rfl,I,J⟩:=RT6_iff.1 m;obtain⟨y,z,A,B,C,D⟩:=(k.ext b).get6;have N:=Hd (k.ext b);have S:=Hd (SlE8.keep I b.kp);have T:=Hd (SlT6.keep J b.kp);have V:=Hd c;obtain⟨f,r⟩:∃f,f=aa nT (l.take a):=⟨_,rfl⟩;obtain⟨g,F⟩:∃g,g=aa nE x.e:=⟨_,rfl⟩;obtain⟨h,G⟩:∃h,h=aa nT x.l:=⟨_,rfl⟩;rw[<-r] at p c a0⊢;have b2:f+1+g+h<=aa nT l:=by omega
   have i:=Hd F;have j:=Hd G;have Q:=Hd r;clear k m I J M b r F G c Z a1;go_wp2_with fail
   go_at_call 48;try simp(disch:=omega) only[IntWalk.i64_in]
   refine(oW x.e _ _ _ S.o (by have:=i.o;omega) zO).mono ?_;rintro _ b9 ⟨rfl,d⟩;rw[<-i.o];have U:=Hd (SlT6.keep T.o d.kp);have W:=Hd (t.o.trans d);clear y z A B C D;obtain⟨y,z,A,B,C,D⟩:=(N.o.ext d).get6;clear d p;go_wp2_with fail
   go_at_call 47;try simp(disch:=omega) only[IntWalk.i64_in]
   refine(u.o _ _ _ U.o (by have:=j.o;omega) zO).mono ?_;rintro _ c0 ⟨rfl,L⟩;rw[<-j.o];have X:=Hd (W.o.trans L);have O:=Hd (show(aa nT (l.take (a+1)):Int)=(f:Int)+1+(g:Int)+(h:Int) by have a7:=V.o;have a8:=Q.o;have a9:=i.o;have b0:=eR x;have b1:=j.o;omega);clear L;go_wp2_with fail
   go_roundw;case rel=>exact⟨a+1,zO,zN,by rw[O.o],X.o⟩
   case measure=>simp[intOf];omega
  ·have Y:a=l.length:=by omega
   subst Y;rw[List.take_length] at p⊢;go_wp2_with fail
   go_ret;exact⟨rfl,t.o⟩
theorem xn(x:DT):jA x.l:=by
 induction x using DT.ind with
 |h x ih=>exact rq x.l ih
theorem xm(l:List DT):jA l:=rq l λx _=>xn x
theorem sx(d:Dsn)(w:World)(a8 a7 a6:Value)(h:DsnR w d a8 a7 a6)(c4:fI d<=70000):
 Calls Tryz.prog 17 #[.agg #[a8,a7,a6]] w λe d1=>e=.returned (.bool true)/\Ext w d1:=by
 have d2:=Hd h;have e1:aa wC d.chks=d.chks.length+aa (λb=>nE b.e) d.chks:=by
  have:∀l:List Ck,aa wC l=l.length+aa (λb=>nE b.e) l:=by
   intro l;induction l with
   |nil=>rfl
   |cons b r ih=>
    show wC b+aa wC r=_;rw[ih];show 1+nE b.e+_=r.length+1+(nE b.e+_);omega
  exact this _
 have c1:d.sigs.length+d.procs.length+(aa wP d.procs+(d.chks.length+aa (λb=>nE b.e) d.chks))<=70000:=by unfold fI wD at c4;omega
 obtain⟨c8,c9,rfl,-⟩:=eS h.sig;obtain⟨b4,b5,rfl,a1⟩:=SlT.open_ h.chk;obtain⟨c6,c7,rfl,a3⟩:=SlT.open_ h.prc;have b0:=Hd a3;have a9:=Hd a1;obtain⟨V,Z,a4,z⟩:=eJ w (.slice c8 d.sigs.length c9) (.slice c6 d.procs.length c7) (.slice b4 d.chks.length b5) 50;have b9:=Z.symm;have S:=Hd z;obtain⟨F,G,H⟩:=z.get3;have t:=Hd a4;obtain⟨n,a2⟩:∃n:Nat,n=d.sigs.length+d.procs.length+d.chks.length:=⟨_,rfl⟩;clear h a3 a1 Z a4 z
 go_in
 go_wp2_with fail
 go_loopw [3,4] (λR p wr=>∃a:Nat,a<=d.procs.length/\p=.int .i64 a/\R=.int .i64 ((n+aa wP (d.procs.take a):Nat):Int)/\Ext V wr) (λ_ p _=>d.procs.length - (intOf p).toNat)
 case atStart=>exact⟨0,aA _,rfl,by rw[List.take_zero];show _=Value.int .i64 ((n+0:Nat):Int);rw[a2];go_num,af _⟩
 case round=>
  obtain⟨a,c3,rfl,rfl,c⟩:=hrel;have M:=Hd c;have D:=bw wP d.procs a;have i:decide (((n+aa wP (d.procs.take a):Nat):Int)<=70000)=true:=decide_eq_true zO;clear b9 F G H;obtain⟨F,G,H⟩:=(S.o.ext c).get3;by_cases A:a<d.procs.length
  ·obtain⟨b3,o,W,rfl,q,-,y⟩:=b0.o a A;have j:=jv wP d.procs A;have Q:=bw wP d.procs (a+1);obtain⟨x,E⟩:∃x,x=d.procs[a]:=⟨_,rfl⟩;rw[<-E] at y j;obtain⟨e4,rfl,C⟩:=y;obtain⟨b6,b7⟩:=(q.ext (t.o.trans c)).get2;have K:=Hd (SlT6.keep C (t.o.trans c).kp);have L:=Hd j;obtain⟨f,m⟩:∃f,f=n+aa wP (d.procs.take a):=⟨_,rfl⟩;obtain⟨g,B⟩:∃g,g=aa nT x.l:=⟨_,rfl⟩;rw[<-m] at i⊢;have z:f+g<=70000:=by have:wP x=aa nT x.l:=rfl;omega
   have k:=Hd B;have J:=Hd m;clear q C E c m B j Q D;go_wp2_with fail
   go_at_call 47;try simp(disch:=omega) only[IntWalk.i64_in]
   refine(xm x.l _ _ _ K.o (by have:=k.o;omega) zO).mono ?_;rintro _ e5 ⟨rfl,s⟩;rw[<-k.o];have N:=Hd (M.o.trans s);have I:=Hd (show((n+aa wP (d.procs.take (a+1)):Nat):Int)=(f:Int)+(g:Int) by have h:=L.o;have X:=J.o;have b8:=k.o;have e0:wP x=aa nT x.l:=rfl;omega);clear s i;go_wp2_with fail
   go_roundw;case rel=>exact⟨a+1,zO,zN,by rw[I.o],N.o⟩
   case measure=>simp[intOf];omega
  ·have P:a=d.procs.length:=by omega
   subst P;rw[List.take_length] at i D⊢;clear c;go_wp2_with fail
   go_loopw [3,5] (λR p wr=>∃a:Nat,a<=d.chks.length/\p=.int .i64 a/\R=.int .i64 ((n+aa wP d.procs+aa (λb=>nE b.e) (d.chks.take a):Nat):Int)/\Ext V wr) (λ_ p _=>d.chks.length - (intOf p).toNat)
   case atStart=>exact⟨0,aA _,rfl,by rw[List.take_zero];rfl,M.o⟩
   case round=>
    obtain⟨a,c3,rfl,rfl,c⟩:=hrel;have M:=Hd c;have D:=bw (λb=>nE b.e) d.chks a;have i:decide (((n+aa wP d.procs+aa (λb=>nE b.e) (d.chks.take a):Nat):Int)<=70000)=true:=decide_eq_true zO;clear F G H;obtain⟨F,G,H⟩:=(S.o.ext c).get3;by_cases A:a<d.chks.length
    ·obtain⟨b3,o,W,rfl,q,-,y⟩:=a9.o a A;have j:=jv (λb=>nE b.e) d.chks A;have Q:=bw (λb=>nE b.e) d.chks (a+1);obtain⟨x,E⟩:∃x,x=d.chks[a]:=⟨_,rfl⟩;rw[<-E] at y j;obtain⟨e3,x⟩:=x;obtain⟨W,rfl,u⟩:=y;simp only at u j q;obtain⟨d0,rfl,C⟩:=RE8_iff.1 u;have e2:=C.oneCell;obtain⟨b6,b7,d3,d4,d5,d6,d7,d8,d9⟩:=(q.ext (t.o.trans c)).get9;obtain⟨b2,a0,s,O⟩:=dg wr (.int .i64 x.op) (.int .i64 x.w) (.int .u64 x.v) (.int .i64 x.sig) (.int .i64 x.hi) (.int .i64 x.lo) (.int .i64 x.n) d0 60;have c0:=a0.symm;have K:=Hd (show SlE8 b2 [x] (.slice (some ⟨wr.heap.size,0,none⟩) 1 1) from⟨_,1,rfl,ac _,λc5 c2=>by
      obtain rfl:c5=0:=by simp only[List.length_cons,List.length_nil] at c2;omega
      exact⟨_,0,_,rfl,O.tag,rfl,O.cells,RE8.one u,RE8.keep (t.o.trans (c.trans s)).kp _ _ u⟩⟩)
     have N:=Hd (c.trans s);have L:=Hd j;obtain⟨f,m⟩:∃f,f=n+aa wP d.procs+aa (λb=>nE b.e) (d.chks.take a):=⟨_,rfl⟩;obtain⟨g,B⟩:∃g,g=nE x:=⟨_,rfl⟩;rw[<-m] at i⊢;have z:f+g<=70000:=by omega
     have k:=Hd B;have J:=Hd m;have T:=Hd (show aa nE [x]=nE x by show nE x+0=_;omega);clear q u C E c s O a0 m B j Q D;go_wp2_with fail
     go_at_call 48;try simp(disch:=omega) only[IntWalk.i64_in]
     refine(oW [x] _ _ _ K.o (by have h:=k.o;have X:=T.o;omega) zO).mono ?_;rintro _ e6 ⟨rfl,a5⟩;rw[T.o,<-k.o];have b1:=Hd (N.o.trans a5);have I:=Hd (show((n+aa wP d.procs+aa (λb=>nE b.e) (d.chks.take (a+1)):Nat):Int)=(f:Int)+(g:Int) by have h:=L.o;have X:=J.o;have b8:=k.o;omega);clear a5 i c0;go_wp2_with fail
     go_roundw;case rel=>exact⟨a+1,zO,zN,by rw[I.o],b1.o⟩
     case measure=>simp[intOf];omega
    ·have P:a=d.chks.length:=by omega
     subst P;rw[List.take_length] at i⊢;obtain⟨U,Y⟩:∃U:Nat,U=n+aa wP d.procs+aa (λb=>nE b.e) d.chks:=⟨_,rfl⟩;rw[<-Y] at i⊢;clear D Y a2 c1;go_wp2_with fail
     go_ret;exact⟨rfl,t.o.trans c⟩
end
