import Derived.Test.YtlfmlodanoolhaaGreatDoorV38
import Derived.Test.YtlfmlodanoolhaaGreatDoorV34
set_option linter.all false
set_option maxRecDepth 200000
set_option maxHeartbeats 0
namespace Go.Proofs.YtlfmlodanoolhaaGreatDoor
section
open Go Go.RowKit Go.Proofs.Tryz
def tTt:ByteArray:=⟨#[116]⟩
def tNn:ByteArray:=⟨#[78]⟩
def tMm:ByteArray:=⟨#[77]⟩
def tXx:ByteArray:=⟨#[120]⟩
def xZ(z:Int):X:=.mk 1 ⟨#[]⟩ 0 0 z []
def xSum:X:=.mk 6 ⟨#[]⟩ 14 0 0 [xNm tA,xNm tNn]
def iAs:Itm:=.mk 4 ⟨#[]⟩ ⟨#[]⟩ [xNm tY,xSum] [] [] [] [] []
def mMm:Mdl:=⟨tM,[⟨tNn,xZ 2⟩],[⟨tA,false,xNm tNn⟩,⟨tY,true,xNm tNn⟩],[iAs]⟩
def iIn:Itm:=.mk 7 tU tM [] [] [] [] [] [⟨tA,xZ 1⟩,⟨tY,xNm tY⟩]
def mTt:Mdl:=⟨tTt,[],[⟨tY,true,xZ 2⟩],[iIn]⟩
def fEx:List Mdl:=[mMm,mTt]
theorem iU:bn tNn:=⟨zD,zD,zD,zD⟩
theorem wg:bn tTt:=⟨zD,zD,zD,zD⟩
theorem wa:MayX xSum:=.mk _ ⟨.inr (.inr (.inl ⟨.inr (.inl rfl),rfl⟩)),.inr (.inl ⟨rfl,zD,zD⟩),.inl ⟨zD,rfl,rfl⟩,.inr ⟨by unfold dW;decide,rfl⟩⟩ (eK (may_nm.2 mX) (may_nm.2 iU))
theorem tR:MayI iAs:=.mk _ ⟨zD,zD,.inr ⟨zD,rfl⟩,.inr ⟨zD,rfl⟩,rfl,(λ_=>.inl rfl),.inr (.inr rfl),.inr (.inr rfl),.inr rfl,.inr ⟨rfl,rfl⟩⟩ (eK (may_nm.2 iP) wa) (λb a=>by cases a) (λb a=>by cases a) (λb a=>by cases a) (λb a=>by cases a) (λb a=>by cases a)
theorem tT:dc mMm:=⟨pP,fI ⟨iU,ik 2⟩,eK ⟨mX,may_nm.2 iU⟩ ⟨iP,may_nm.2 iU⟩,fI tR⟩
theorem tS:MayI iIn:=.mk _ ⟨zD,zD,.inl ⟨(show(7:Int)≠4/\(7:Int)≠5/\(7:Int)≠6/\(7:Int)≠8 by decide),tZ⟩,.inl ⟨.inl rfl,pP⟩,rfl,(λc=>absurd c (show¬(7:Int)=4 by decide)),.inr (.inr rfl),.inr (.inr rfl),.inr rfl,.inl rfl⟩
 (λb a=>by cases a) (λb a=>by cases a) (λb a=>by cases a) (λb a=>by cases a) (λb a=>by cases a) (eK ⟨mX,ik 1⟩ ⟨iP,may_nm.2 iP⟩)
theorem tV:dc mTt:=⟨wg,(λb a=>by cases a),fI ⟨iP,ik 2⟩,fI tS⟩
theorem xg:ed fEx=0:=by
 unfold ed;rw[if_neg zD,yes_iff.2 (show∀a,a∈fEx->dc a from eK tT tV)];decide
theorem lr{z:Int}(h0:0<=z)(b:z<=2147483647):VX (xZ z):=.mk _ h0 (show z<18446744073709551616 by omega) (show(0:Nat)<4294967281 by decide) (λc a=>by cases a)
theorem us:VX xSum:=.mk _ zD zD zD (eK (ib zD) (ib zD))
theorem tc:VI iAs:=.mk _ zD zD (eK (ib zD) us) (λb a=>by cases a) (λb a=>by cases a) (λb a=>by cases a) (λb a=>by cases a) (λb a=>by cases a)
theorem td:VI iIn:=.mk _ zD zD (λb a=>by cases a) (λb a=>by cases a) (λb a=>by cases a) (λb a=>by cases a) (λb a=>by cases a) (eK ⟨zD,lr zD zD⟩ ⟨zD,ib zD⟩)
theorem sD:∀a,a∈fEx->VM a:=eK ⟨zD,fI ⟨zD,lr zD zD⟩,eK ⟨zD,ib zD⟩ ⟨zD,ib zD⟩,fI tc⟩ ⟨zD,(λc b=>by cases b),fI ⟨zD,lr zD zD⟩,fI td⟩
theorem ez{a b:ByteArray}(h:a.data≠b.data):¬a=b:=λe=>h (congrArg ByteArray.data e)
theorem nv:¬tA=tY:=ez zD
theorem kr:¬tY=tA:=ez zD
theorem li:¬tM=tTt:=ez zD
theorem rh:cg mMm=[]:=by
 have a:bX mMm.items=[]:=by show bX [iAs]=[];simp[bX,ofI,iAs]
 unfold cg;rw[a];rfl
theorem ri:cg mTt=[tM]:=by
 have a:bX mTt.items=[tM]:=by show bX [iIn]=[tM];simp[bX,ofI,iIn]
 unfold cg;rw[a];exact iu zS
theorem yJ:dV mMm:=by
 refine⟨?_,?_,?_⟩
 ·show cN [iAs];simp[cN,fm,iAs]
 ·show(ap [iAs]++([tA,tY]++[tNn])).Nodup;rw[show ap [iAs]=[] from by simp[ap,tnI,iAs,cy]];simp[nv,show¬tA=tNn from ez zD,show¬tY=tNn from ez zD]
 ·show bf _ [iAs];simp[bf,inI,iAs,bE]
theorem yK:dV mTt:=by
 refine⟨?_,?_,?_⟩
 ·show cN [iIn];simp[cN,fm,iIn]
 ·show(ap [iIn]++([tY]++[])).Nodup;rw[show ap [iIn]=[tU] from by simp[ap,tnI,iIn,cy]];simp[show¬tU=tY from ez zD]
 ·show bf _ [iIn];simp[bf,inI,iIn,bE]
theorem wh:dq fEx []=some mMm:=by
 refine jH (f:=fEx) (i:=0) zD (show ew [] mMm from⟨zS,λs a=>by rw[rh] at a;cases a⟩) (λd b c=>by omega)
theorem wi:dq fEx [tM]=some mTt:=by
 refine jH (f:=fEx) (i:=1) zD (show ew [tM] mTt from⟨λa=>li (y8d.1 a).symm,λs b=>by rw[ri] at b;exact b⟩) (λc d e=>?_);obtain rfl:c=0:=by omega
 exact λa=>a.1 (y8d.2 rfl)
theorem wx:cY fEx=[tM,tTt]:=by
 unfold cY;show dH fEx 2 []=_;unfold dH;rw[wh];show dH fEx 1 [tM]=_;unfold dH;rw[wi];rfl
theorem jU:cC fEx=0:=by
 unfold cC;rw[if_pos xg];have c:=nS (f:=fEx) ⟨by show [tM,tTt].Nodup;simp[li],eK yJ yK⟩ (λd b s a=>by
  rcases List.mem_cons.1 b with rfl|b
  ·rw[rh] at a;cases a
  ·rw[List.mem_singleton.1 b,ri] at a;rw[List.mem_singleton.1 a];show tM∈[tM,tTt];simp)
 rw[c,wx];rfl
theorem lz:ce fEx tM=some mMm:=ly (f:=fEx) (i:=0) zD rfl (λc a b=>by omega)
theorem vD:ce fEx tTt=some mTt:=ly (f:=fEx) (i:=1) zD rfl (λa b c=>by
 obtain rfl:a=0:=by omega
 exact li)
theorem vF:ce fEx tXx=none:=qt (by
 intro x a;rcases List.mem_cons.1 a with rfl|a
 ·exact ez zD
 ·rw[List.mem_singleton.1 a];exact ez zD)
theorem sO{z:Int}(h:bU z)(s:Sc):aI s (xZ z)=.ok z:=zU (x:=xZ z) rfl rfl h (ik z) s
theorem tq{z:Int}(h:bU z)(env:List (ByteArray×Int)):bA env (xZ z)=(z,0):=by
 unfold bA;rw[if_pos (show er (xZ z)=0 from checkX_zero.2 ⟨by rw[dJ];show(1:Nat)+0<=_;decide,by rw[hU];show(1:Nat)+0<=_;decide,ik z⟩)];show aN _ (.mk 1 ⟨#[]⟩ 0 0 z [])=_;rw[qr];unfold cO;rw[if_pos h]
theorem vy{env:List (ByteArray×Int)}{a:ByteArray}{v:Int}(b:bn a)(c:bU v)(h:bF env a=some v):bA env (xNm a)=(v,0):=by
 unfold bA;rw[if_pos (checkX_zero.2 ⟨by rw[dJ];show(1:Nat)+0<=_;decide,by rw[hU];show(1:Nat)+0<=_;decide,may_nm.2 b⟩),fp];show eG _ 2 a 0 0 0 []=_;unfold eG;rw[if_neg zD,if_pos rfl,h];show cO v=_;unfold cO;rw[if_pos c]
theorem rj{s:Sc}{x:X}{v:Int}(h:bA s.env x=(v,0))(a:1<=v/\v<=64):cj s x=.ok v:=by
 unfold cj hH;rw[h,if_neg (by simp only;omega)];rfl
theorem ga{n:Int}{m:Mk}(h:m.count+n<=65536):aW n m=.ok {m with count:=m.count+n}:=if_pos h
theorem iq{p:Prop} [Decidable p]{e:Int}(h:p):aU p e=.ok ():=if_pos h
theorem lU{a:ByteArray}{w kind b:Int}{s:Sc}{m:Mk}(c:m.d.sigs.length<512)(h2:m.bits+w<=4096):cI a w kind b s m=.ok ({s with sigs:=az s.sigs a m.d.sigs.length},{m with bits:=m.bits+w,d:={m.d with sigs:=m.d.sigs++[⟨s.path++a,w,kind,b⟩]}}):=if_pos ⟨c,h2⟩
theorem ms{a:Bool}{l:List DT}{m:Mk}(h:m.d.procs.length<1024):ca a l m=.ok {m with d:={m.d with procs:=m.d.procs++[⟨a,l⟩]}}:=if_pos h
theorem rn{c:List Sg}{s:Sc}{b:ByteArray}{a:Int}(h:s.sigs b=some a)(d:1<=(aD c a).w):bS c s (xNm b)=.ok (a,(aD c a).w - 1,0):=by
 unfold bS dt;rw[show(xNm b).name=b from rfl,h];simp only[bind,Except.bind,pure,Except.pure];rw[if_pos (show(xNm b).op=2 from rfl),iq zO]
theorem pb{b:List Sg}{s:Sc}{c:ByteArray}{a:Int}(h:s.sigs c=some a)(e:1<=(aD b a).w)(d:dg false (aD b a).kind=true):cJ b s false (xNm c)=.ok (a,(aD b a).w - 1,0):=by
 unfold cJ;rw[iq (.inl rfl),rn h e];simp only[bind,Except.bind,pure,Except.pure];rw[iq d]
theorem uL{c:List Sg}{s:Sc}{b:ByteArray}{a:Int}(d:bF s.env b=none)(h:s.sigs b=some a)(e:1<=(aD c a).w):aC c s (xNm b)=.ok (fk (a,(aD c a).w - 1,0),1):=by
 rw[dI];unfold dn;rw[if_neg (show¬(xNm b).op=1 from λh=>absurd h (show¬(2:Int)=1 by decide)),if_pos (show(xNm b).op=2 from rfl),show(xNm b).name=b from rfl,d];simp only;rw[rn h e];rfl
theorem uK{d:List Sg}{s:Sc}{a:ByteArray}{v:Int}(c:bF s.env a=some v):aC d s (xNm a)=.ok (bR 0 v,1):=by
 rw[dI];unfold dn;rw[if_neg (show¬(xNm a).op=1 from λb=>absurd b (show¬(2:Int)=1 by decide)),if_pos (show(xNm a).op=2 from rfl),show(xNm a).name=a from rfl,c]
theorem sP(a:List Sg)(s:Sc)(z:Int):aC a s (xZ z)=.ok (bR 0 z,1):=by
 rw[dI];unfold dn;rw[if_pos (show(xZ z).op=1 from rfl)];rfl
theorem vB{b:List Sg}{s:Sc}{a n:Int}(d:bF s.env tA=none)(h:s.sigs tA=some a)(e:1<=(aD b a).w)(c:bF s.env tNn=some n):aC b s xSum=.ok (.mk 5 0 0 0 0 0 14 [fk (a,(aD b a).w - 1,0),bR 0 n],3):=by
 rw[dI,show xSum.l=[xNm tA,xNm tNn] from rfl,List.map_cons,List.map_cons,List.map_nil,uL d h e,uK c];unfold dn;rw[if_neg zD,if_neg zD,if_neg zD,if_neg zD,if_neg zD,if_neg zD];rfl
theorem pO(inst:Itm->Sc->Mk->Rs Mk)(s:Sc)(m:Mk){a b n:Int}(g:bF s.env tA=none)(c:bF s.env tNn=some n)(ha:s.sigs tA=some a)(e:s.sigs tY=some b)(i:1<=(aD m.d.sigs a).w)(j:1<=(aD m.d.sigs b).w)(f:dg false (aD m.d.sigs b).kind=true)
 (l:m.count+5<=65536) (h:m.d.procs.length<1024):∃k,aZ inst [iAs] s m=.ok (s,{m with count:=m.count+5,d:={m.d with procs:=m.d.procs++[k]}}):=by
 refine⟨⟨false,[eb (b,(aD m.d.sigs b).w - 1,0) (.mk 5 0 0 0 0 0 14 [fk (a,(aD m.d.sigs a).w - 1,0),bR 0 n])]⟩,?_⟩;rw[aZ,ga zO];simp only[bind,Except.bind,pure,Except.pure];unfold iAs;rw[aF,if_neg zD,if_neg zD,if_neg zD,if_pos rfl];simp only[bind,Except.bind,pure,Except.pure];unfold cG;rw[ga (by simp only;omega)];simp only[bind,Except.bind,pure,Except.pure];rw[show xAt [xNm tY,xSum] 0=xNm tY from rfl,show xAt [xNm tY,xSum] 1=xSum from rfl,pb e j f];simp only;unfold aG;rw[vB g ha i c];simp only[bind,Except.bind,pure,Except.pure];rw[ga (by simp only;omega)];simp only;rw[ms (by exact h)];simp only;rw[aZ];simp only[show m.count+1+1+3=m.count+5 by omega]
theorem nK{T:ByteArray->Option Int}{n:Int}(a:T tNn=some n\/T tNn=none/\n=2)(f:1<=n/\n<=64)(p:ByteArray)(b:Prt->Int)(m:Mk)(h:m.d.sigs.length+2<=512)(h2:m.bits+n+n<=4096):
 dN mMm T p b m=.ok (⟨[(tNn,n)],az (az (λ_=>none) tA m.d.sigs.length) tY (m.d.sigs.length+1),p⟩,{m with bits:=m.bits+n+n,d:={m.d with sigs:=m.d.sigs++[⟨p++tA,n,b ⟨tA,false,xNm tNn⟩,0⟩]++[⟨p++tY,n,b ⟨tY,true,xNm tNn⟩,0⟩]}}):=by
 unfold dN mMm;simp only;have g:cH T [⟨tNn,xZ 2⟩] ⟨[],λ_=>none,p⟩=.ok ⟨[(tNn,n)],λ_=>none,p⟩:=by
  rw[cH];rcases a with a|⟨a,rfl⟩
  ·simp only[a,bind,Except.bind];rw[cH];rfl
  ·simp only[a];rw[sO zD];simp only[bind,Except.bind];rw[cH];rfl
 rw[g];have c:∀e:ByteArray->Option Int,cj ⟨[(tNn,n)],e,p⟩ (xNm tNn)=.ok n:=λe=>rj (vy iU ⟨zO,zO⟩ (by show(if tNn=tNn then some n else none)=_;rw[if_pos rfl])) f
 simp only[bind,Except.bind];rw[ci];simp only[bind,Except.bind];rw[c];simp only;rw[lU zO zO];simp only;rw[ci];simp only[bind,Except.bind];rw[c];simp only;rw[lU (by simp only[List.length_append,List.length_cons,List.length_nil];omega) (by simp only;omega)];simp only;rw[ci];simp only[List.length_append,List.length_cons,List.length_nil];rfl
theorem bN{α c:Type}{a:Rs α}{x:α}{f:α->Rs c}{b:Rs c}(h:a=.ok x)(k:f x=b):(a>>=f)=b:=by rw[h];exact k
theorem qp{ps:List (ByteArray×Int)}{T:ByteArray->Option Int}{n:Int}(ht:dr mMm ps (λ_=>none)=.ok T)(f:T tNn=some n\/T tNn=none/\n=2)(d:1<=n/\n<=64):∃c,bh fEx tM ps=(⟨[⟨tA,n,1,0⟩,⟨tY,n,2,0⟩],[c],[]⟩,0):=by
 obtain⟨c,g⟩:=pO (cf fEx fEx.length) ⟨[(tNn,n)],az (az (λ_=>none) tA 0) tY 1,⟨#[]⟩⟩ ⟨⟨[⟨tA,n,1,0⟩,⟨tY,n,2,0⟩],[],[]⟩,0,n+n⟩ (a:=0) (b:=1) (n:=n)
  (by show(if tNn=tA then some n else none)=none;rw[if_neg (ez zD)]) (by show(if tNn=tNn then some n else none)=_;rw[if_pos rfl])
  (by show(if tY=tA then some (1:Int) else if tA=tA then some 0 else none)=_;rw[if_neg kr,if_pos rfl]) (by show(if tY=tY then some (1:Int) else if tA=tY then some 0 else none)=_;rw[if_pos rfl])
  d.1 d.1 rfl (by show(0:Int)+5<=_;decide) (by show(0:Nat)<_;decide)
 refine⟨c,?_⟩;have e:bQ fEx tM ps=.ok ⟨[⟨tA,n,1,0⟩,⟨tY,n,2,0⟩],[c],[]⟩:=by
  unfold bQ;rw[if_neg (by rw[jU];decide),lz];refine bN ht ?_;refine bN (x:=(⟨[(tNn,n)],az (az (λ_=>none) tA 0) tY 1,⟨#[]⟩⟩,⟨⟨[⟨tA,n,1,0⟩,⟨tY,n,2,0⟩],[],[]⟩,0,n+n⟩)) ((nK f d _ _ noMk zD (by show(0:Int)+n+n<=4096;omega)).trans ?_) ?_
  ·rw[gq,gq,show noMk.bits+n+n=n+n from by show(0:Int)+n+n=_;omega];rfl
  ·exact bN g rfl
 unfold bh;rw[e]
theorem xn:∃a,bh fEx tM []=(⟨[⟨tA,2,1,0⟩,⟨tY,2,2,0⟩],[a],[]⟩,0):=qp (T:=λ_=>none) rfl (.inr ⟨rfl,rfl⟩) zD
theorem xo:∃b,bh fEx tM [(tNn,8)]=(⟨[⟨tA,8,1,0⟩,⟨tY,8,2,0⟩],[b],[]⟩,0):=by
 refine qp (T:=az (λ_=>none) tNn 8) ?_ (.inl (by unfold az;rw[if_pos rfl])) zD;rw[dr];unfold aU;rw[if_pos (show((λ_=>none:ByteArray->Option Int) tNn=none/\∃a,a∈mMm.params/\a.name=tNn) from⟨rfl,⟨tNn,xZ 2⟩,List.mem_singleton.2 rfl,rfl⟩)];simp only[bind,Except.bind];rw[if_pos zD];rfl
theorem xp:bh fEx tM [(tMm,1)]=(⟨[],[],[]⟩,82):=by
 have c:bQ fEx tM [(tMm,1)]=.error 82:=by
  unfold bQ;rw[if_neg (by rw[jU];decide),lz];simp only;rw[dr];unfold aU;rw[if_neg (show¬((λ_=>none:ByteArray->Option Int) tMm=none/\∃a,a∈mMm.params/\a.name=tMm) from λ⟨_,a,d,b⟩=>by
   rw[List.mem_singleton.1 d] at b;exact absurd (congrArg ByteArray.data b) zD)]
  rfl
 unfold bh;rw[c]
theorem vu:bh fEx tXx []=(⟨[],[],[]⟩,71):=by
 have a:bQ fEx tXx []=.error 71:=by
  unfold bQ;rw[if_neg (by rw[jU];decide),vF]
 unfold bh;rw[a]
def tUA:ByteArray:=⟨#[117,46,97]⟩
def tUY:ByteArray:=⟨#[117,46,121]⟩
def tUd:ByteArray:=⟨#[117,46]⟩
theorem uD:bT (λb=>∃a,a∈mMm.ports/\a.name=b) 81 (λx=>(.ok x:Rs X)) iIn.binds (λ_=>none)=.ok (az (az (λ_=>none) tA (xZ 1)) tY (xNm tY)):=by
 rw[show iIn.binds=[⟨tA,xZ 1⟩,⟨tY,xNm tY⟩] from rfl,bT];unfold aU;rw[if_pos (show((λ_=>none:ByteArray->Option X) tA=none/\∃a,a∈mMm.ports/\a.name=tA) from⟨rfl,⟨tA,false,xNm tNn⟩,List.mem_cons_self ..,rfl⟩)];simp only[bind,Except.bind];rw[bT];unfold aU;rw[if_pos (show(az (λ_=>none) tA (xZ 1) tY=none/\∃a,a∈mMm.ports/\a.name=tY) from⟨by unfold az;rw[if_neg nv],⟨tY,true,xNm tNn⟩,bi _ (y8d.2 rfl),rfl⟩)];rfl
theorem vt:∃p c q,bh fEx tTt []=(⟨[⟨tY,2,2,0⟩,⟨tUA,2,3,0⟩,⟨tUY,2,3,0⟩],[p,c,q],[]⟩,0):=by
 have d:(az (az (λ_=>none) tA (xZ 1)) tY (xNm tY)) tA=some (xZ 1):=by unfold az;rw[if_neg kr,if_pos rfl]
 have e:(az (az (λ_=>none) tA (xZ 1)) tY (xNm tY)) tY=some (xNm tY):=by unfold az;rw[if_pos rfl]
 obtain⟨f,l⟩:∃f,f=az (az (λ_=>none) tA (xZ 1)) tY (xNm tY):=⟨_,rfl⟩;have g:=uD;rw[<-l] at g d e
 obtain⟨c,o⟩:=pO (cf fEx 1) ⟨[(tNn,2)],az (az (λ_=>none) tA 1) tY 2,tUd⟩ ⟨⟨[⟨tY,2,2,0⟩,⟨tUA,2,3,0⟩,⟨tUY,2,3,0⟩],[⟨false,[.mk 1 1 1 0 [bR 0 1] []]⟩],[]⟩,3,6⟩ (a:=1) (b:=2) (n:=2)
  (by show(if tNn=tA then some (2:Int) else none)=none;rw[if_neg (ez zD)]) (by show(if tNn=tNn then some (2:Int) else none)=_;rw[if_pos rfl])
  (by show(if tY=tA then some (2:Int) else if tA=tA then some 1 else none)=_;rw[if_neg kr,if_pos rfl]) (by show(if tY=tY then some (2:Int) else if tA=tY then some 1 else none)=_;rw[if_pos rfl])
  zD zD rfl (by show(3:Int)+5<=_;decide) (by show(1:Nat)<_;decide)
 refine⟨⟨false,[.mk 1 1 1 0 [bR 0 1] []]⟩,c,⟨false,[eb (0,1,0) (.mk 2 0 0 2 1 0 0 [])]⟩,?_⟩;have hi:cf fEx 2 iIn ⟨[],az (λ_=>none) tY 0,⟨#[]⟩⟩ ⟨⟨[⟨tY,2,2,0⟩],[],[]⟩,1,2⟩=.ok ⟨⟨[⟨tY,2,2,0⟩,⟨tUA,2,3,0⟩,⟨tUY,2,3,0⟩],[⟨false,[.mk 1 1 1 0 [bR 0 1] []]⟩,c,⟨false,[eb (0,1,0) (.mk 2 0 0 2 1 0 0 [])]⟩],[]⟩,10,6⟩:=by
  rw[cf,show iIn.of=tM from rfl,lz,Option.getD_some,show iIn.params=[] from rfl];refine bN (x:=λ_=>none) (by rw[bT]) ?_;refine bN g ?_;refine bN (x:=()) ?_ ?_
  ·rw[show mMm.ports=[⟨tA,false,xNm tNn⟩,⟨tY,true,xNm tNn⟩] from rfl,dp];refine bN (iq (.inl (by simp only[d];rfl))) ?_;rw[dp];refine bN (iq (.inl (by simp only[e];rfl))) ?_;rw[dp]
  have m:(⟨#[]⟩:ByteArray)++iIn.name++tDot=tUd:=by rw[gq];decide
  refine bN (x:=(⟨[(tNn,2)],az (az (λ_=>none) tA 1) tY 2,tUd⟩,⟨⟨[⟨tY,2,2,0⟩,⟨tUA,2,3,0⟩,⟨tUY,2,3,0⟩],[],[]⟩,1,6⟩)) ((nK (n:=2) (.inr ⟨rfl,rfl⟩) zD _ _ _ (by show(1:Nat)+2<=512;decide) (by show(2:Int)+2+2<=4096;decide)).trans ?_) ?_
  ·rw[m,show tUd++tA=tUA from by decide,show tUd++tY=tUY from by decide];rfl
  have i:(az (az (λ_=>none) tA (1:Int)) tY 2) tA=some 1:=by unfold az;rw[if_neg kr,if_pos rfl]
  have j:(az (az (λ_=>none) tA (1:Int)) tY 2) tY=some 2:=by unfold az;rw[if_pos rfl]
  refine bN (x:=⟨⟨[⟨tY,2,2,0⟩,⟨tUA,2,3,0⟩,⟨tUY,2,3,0⟩],[⟨false,[.mk 1 1 1 0 [bR 0 1] []]⟩],[]⟩,3,6⟩) ?_ ?_
  ·rw[show mMm.ports=[⟨tA,false,xNm tNn⟩,⟨tY,true,xNm tNn⟩] from rfl,co,if_neg zD];refine bN (x:=⟨⟨[⟨tY,2,2,0⟩,⟨tUA,2,3,0⟩,⟨tUY,2,3,0⟩],[],[]⟩,2,6⟩) (ga zD) ?_;refine bN (x:=(bR 0 1,⟨⟨[⟨tY,2,2,0⟩,⟨tUA,2,3,0⟩,⟨tUY,2,3,0⟩],[],[]⟩,3,6⟩)) ?_ ?_
   ·rw[d];exact bN (sP _ _ 1) (bN (ga zD) rfl)
   ·simp only;rw[i];refine bN (x:=⟨⟨[⟨tY,2,2,0⟩,⟨tUA,2,3,0⟩,⟨tUY,2,3,0⟩],[⟨false,[.mk 1 1 1 0 [bR 0 1] []]⟩],[]⟩,3,6⟩) (ms zD) ?_;rw[co,if_pos rfl,co]
  refine bN (by rw[show mMm.items=[iAs] from rfl];exact o) ?_;rw[show mMm.ports=[⟨tA,false,xNm tNn⟩,⟨tY,true,xNm tNn⟩] from rfl,bZ];simp only[d];rw[bZ];simp only[e];refine bN (x:=⟨⟨[⟨tY,2,2,0⟩,⟨tUA,2,3,0⟩,⟨tUY,2,3,0⟩],[⟨false,[.mk 1 1 1 0 [bR 0 1] []]⟩,c],[]⟩,9,6⟩) (ga (show(8:Int)+1<=65536 by decide)) ?_;refine bN (x:=(0,1,0)) (pb (a:=0) (by show(if tY=tY then some (0:Int) else none)=_;rw[if_pos rfl]) (show(1:Int)<=2 by decide) (show dg false 2=true by decide)) ?_;refine bN (x:=⟨⟨[⟨tY,2,2,0⟩,⟨tUA,2,3,0⟩,⟨tUY,2,3,0⟩],[⟨false,[.mk 1 1 1 0 [bR 0 1] []]⟩,c],[]⟩,10,6⟩) (ga (show(9:Int)+1<=65536 by decide)) ?_;rw[j];refine bN (ms (show(2:Nat)<1024 by decide)) ?_;rw[bZ];rfl
 have k:bQ fEx tTt []=.ok ⟨[⟨tY,2,2,0⟩,⟨tUA,2,3,0⟩,⟨tUY,2,3,0⟩],[⟨false,[.mk 1 1 1 0 [bR 0 1] []]⟩,c,⟨false,[eb (0,1,0) (.mk 2 0 0 2 1 0 0 [])]⟩],[]⟩:=by
  unfold bQ;rw[if_neg (by rw[jU];decide),vD];refine bN (x:=λ_=>none) rfl ?_;refine bN (x:=(⟨[],az (λ_=>none) tY 0,⟨#[]⟩⟩,⟨⟨[⟨tY,2,2,0⟩],[],[]⟩,0,2⟩)) ?_ ?_
  ·refine bN (x:=⟨[],λ_=>none,⟨#[]⟩⟩) rfl ?_;refine bN (rj (tq zD _) zD) ?_;refine bN (lU zD zD) ?_;show Except.ok _=_;rw[gq];rfl
  ·refine bN (x:=(⟨[],az (λ_=>none) tY 0,⟨#[]⟩⟩,⟨⟨[⟨tY,2,2,0⟩,⟨tUA,2,3,0⟩,⟨tUY,2,3,0⟩],[⟨false,[.mk 1 1 1 0 [bR 0 1] []]⟩,c,⟨false,[eb (0,1,0) (.mk 2 0 0 2 1 0 0 [])]⟩],[]⟩,10,6⟩)) ?_ rfl;rw[show mTt.items=[iIn] from rfl,aZ];refine bN (x:=⟨⟨[⟨tY,2,2,0⟩],[],[]⟩,1,2⟩) (ga zD) ?_;refine bN (x:=(⟨[],az (λ_=>none) tY 0,⟨#[]⟩⟩,⟨⟨[⟨tY,2,2,0⟩,⟨tUA,2,3,0⟩,⟨tUY,2,3,0⟩],[⟨false,[.mk 1 1 1 0 [bR 0 1] []]⟩,c,⟨false,[eb (0,1,0) (.mk 2 0 0 2 1 0 0 [])]⟩],[]⟩,10,6⟩)) ?_ (by rw[aZ]);have h:=hi;unfold iIn at h⊢;rw[aF,if_neg zD,if_neg zD,if_neg zD,if_neg zD,if_neg zD,if_neg zD,if_pos rfl];exact bN h rfl
 unfold bh;rw[k]
def FindG(l:List Sg)(s:ByteArray)(i:Int)(b:Bool):Prop:=b=true/\(∃a:Nat,∃e:a<l.length,i=a/\l[a].name=s/\∀c (f:c<l.length),c<a->¬l[c].name=s)\/b=false/\i=0/\∀d,d∈l->¬d.name=s
theorem FindG.one{l:List Sg}{s:ByteArray}{i j:Int}{b e:Bool}(h:FindG l s i b)(k:FindG l s j e):i=j/\b=e:=by
 rcases h with⟨rfl,n,g,rfl,a,o⟩|⟨rfl,rfl,a⟩<;>rcases k with⟨rfl,d,f,rfl,c,p⟩|⟨rfl,rfl,c⟩
 ·refine⟨?_,rfl⟩;by_cases h:n<d
  ·exact absurd a (p n g h)
  ·by_cases m:d<n
   ·exact absurd c (o d f m)
   ·omega
 ·exact absurd a (c _ (an g))
 ·exact absurd c (a _ (an f))
 ·exact⟨rfl,rfl⟩
def cD(k:Int):Nat->List Sg->List Int
 |_,[]=>[]
 |n,g::r=>if g.kind=k then(n:Int)::cD k (n+1) r else cD k (n+1) r
theorem py(k:Int):∀(a:List Sg) (n:Nat) (b:List Sg),cD k n (a++b)=cD k n a++cD k (n+a.length) b
 |[],n,b=>rfl
 |c::a,n,b=>by
  have f:=py k a (n+1) b;have e:n+(c::a).length=n+1+a.length:=by simp only[List.length_cons];omega
  rw[e];show(if c.kind=k then(n:Int)::cD k (n+1) (a++b) else cD k (n+1) (a++b))=(if c.kind=k then(n:Int)::cD k (n+1) a else cD k (n+1) a)++_;by_cases d:c.kind=k
  ·rw[if_pos d,if_pos d,f];rfl
  ·rw[if_neg d,if_neg d,f]
theorem AX{k:Int}{l:List Sg}{i:Nat}(h:i<l.length):cD k 0 (l.take (i+1))=if l[i].kind=k then cD k 0 (l.take i)++[(i:Int)] else cD k 0 (l.take i):=by
 rw[List.take_succ_eq_append_getElem h,py,List.length_take,Nat.min_eq_left (Nat.le_of_lt h),Nat.zero_add];show _++(if l[i].kind=k then [(i:Int)] else [])=_;by_cases a:l[i].kind=k
 ·rw[if_pos a,if_pos a]
 ·rw[if_neg a,if_neg a,List.append_nil]
theorem oj(k:Int):∀(l:List Sg) (n:Nat),(cD k n l).length<=l.length
 |[],_=>ac _
 |g::r,n=>by
  have:=oj k r (n+1);show(if g.kind=k then(n:Int)::cD k (n+1) r else cD k (n+1) r).length<=_;split<;>simp only[List.length_cons]<;>omega
end
section
open Go Go.RowKit Go.Proofs.Tryz
attribute [local go_sem] bc
abbrev sgC(x:Sg):List Value:=[.string x.name,.int .i64 x.w,.int .i64 x.kind,.int .u64 x.init]
theorem Sl.extG{w a:World}{B:Nat}{l:List Sg}{v:Value}(h:Sl RSg w B 4 l v)(b:Ext w a)(c:B<=w.heap.size):Sl RSg a B 4 l v:=
 h.keep (λe d=>b.cell zO) (ac _) (λ_ _ _ h=>h)
theorem eP{w:World}{B:Nat}{l:List Sg}{v:Value}(h:Sl RSg w B 4 l v):∃c d,v=.slice c l.length d/\∀a (e:a<l.length),∃b o,c=some ⟨b,o,none⟩/\b<B/\Cells w b (o+a*4) (sgC l[a]):=by
 obtain⟨c,d,rfl,-,k⟩:=h;refine⟨c,d,rfl,λa e=>?_⟩;obtain⟨b,o,f,ha,j,-,g,-,i⟩:=k a e;exact⟨b,o,ha,j,by rw[<-(show f=sgC l[a] from i)];exact g⟩
theorem Ab(s:Nat)(I:Enters Tryz.prog s)(P:Sg->Prop)(F:Value)(B:Nat)(l:List Sg)(w:World)
 (J:∀x,x∈l->∀(i:World),Ext w i->Calls Tryz.prog s #[.agg #[.string x.name,.int .i64 x.w,.int .i64 x.kind,.int .u64 x.init],F] i λe V=>e=.returned (.bool (yes (P x)))/\Ext i V)
 (v:Value) (H:Sl RSg w B 4 l v) (a0:B<=w.heap.size) (a5:l.length<=1000000000):
 Calls Tryz.prog 51 #[v,.func (.func s) #[] #[F]] w λe i=>Ext w i/\
  ((∃c,∃u:c<l.length,P l[c]/\(∀a,∀d:a<l.length,a<c->¬P l[a])/\e=.returned (.int .i64 c))\/((∀x,x∈l->¬P x)/\e=.returned (.int .i64 (-1)))):=by
 obtain⟨X,Z,rfl,L⟩:=eP H;have Q:=Hd L;have C:=Hd J;have a2:=I.o;clear J I L H
 go_in
 go_wp2_with fail
 go_loopw [8] (λc wr=>∃b:Nat,b<=l.length/\c=.int .i64 b/\(∀a,∀d:a<l.length,a<b->¬P l[a])/\Ext w wr) (λc _=>l.length - (intOf c).toNat)
 case atStart=>exact⟨0,aA _,rfl,λa d f=>absurd f zO,af _⟩
 case round=>
  obtain⟨b,a3,rfl,K,h⟩:=hrel;have j:=Hd K;clear K;by_cases z:b<l.length
  ·have k:=Hd (C.o l[b] (an z));obtain⟨Y,o,rfl,a1,G⟩:=Q.o b z;obtain⟨n,p,q,r⟩:=(G.ext h).get4;have E:=Hd h;have W:=Hd (show∀a,∀d:a<l.length,a<b+1->a≠b->¬P l[a] from λa d f a4=>j.o a d zO);have N:∃t:Sg,t=l[b]:=⟨_,rfl⟩;obtain⟨t,y⟩:=N;rw[<-y] at k n p q r;have D:=Hd y;clear G C h y;go_wp2_with fail
   refine(k.o _ E.o).mono ?_;rintro e a6 ⟨rfl,A⟩;have M:=Hd (E.o.trans A);by_cases g:P t
   ·rw[yes_iff.2 g];have m:=Hd (show∃c,∃u:c<l.length,P l[c]/\(∀a,∀d:a<l.length,a<c->¬P l[a])/\(b:Int)=c from⟨b,z,by rw[<-D.o];exact g,j.o,rfl⟩);clear g A k n p q r;go_wp2_with fail
    go_ret;obtain⟨c,u,R,S,T⟩:=m.o;exact⟨M.o,.inl ⟨c,u,R,S,by rw[T];rfl⟩⟩
   ·rw[yes_no.2 g];have O:=Hd (show∀a,∀d:a<l.length,a<b+1->¬P l[a] from λa d f=>if e:a=b then by subst e;rw[<-D.o];exact g else j.o a d zO);clear g A k n p q r;go_wp2_with fail
    go_roundw;case rel=>exact⟨b+1,zO,zN,O.o,M.o⟩
    case measure=>simp[intOf];omega
  ·have U:b=l.length:=by omega
   subst U;have m:=Hd (show∀x,x∈l->¬P x from λx h=>by obtain⟨a,f,rfl⟩:=List.getElem_of_mem h;exact j.o a f f);go_wp2_with fail
   go_ret;exact⟨h,.inr ⟨m.o,rfl⟩⟩
theorem Bu:Enters Tryz.prog 52:=⟨λ_ _=>by kernel_rfl⟩
theorem BH(x:Sg)(s:ByteArray)(p:Addr)(w:World)(g:w.cell? p=some (.string s))(f:p.block<w.heap.size):
 Calls Tryz.prog 52 #[.agg #[.string x.name,.int .i64 x.w,.int .i64 x.kind,.int .u64 x.init],.pointer (some p)] w λe q=>e=.returned (.bool (yes (x.name=s)))/\Ext w q:=by
 obtain⟨r,b,l,c,m,h,i,j,k⟩:=en w (.string x.name) (.int .i64 x.w) (.int .i64 x.kind) (.int .u64 x.init) 57;have u:b.w.cell? p=some (.string s):=((c.trans b.ext).cell f).trans g;have d:=Hd (c.trans b.ext);clear c m g f;obtain⟨n,z,y,v⟩:=x;simp only at l h i j k⊢;by_cases a:n=s
 ·rw[yes_iff.2 a];subst a
  go_in
  go_wp2
  go_ret;exact⟨rfl,d.o⟩
 ·rw[yes_no.2 a];have t:=gB a;clear a
  go_in
  go_wp2
  go_ret;exact⟨rfl,d.o⟩
theorem xl(B:Nat)(l:List Sg)(s:ByteArray)(w:World)(I p n:Value)(k:Sl RSg w B 4 l I)(op:p.oneCell'=true)(W:n.oneCell'=true)(A:B<=w.heap.size)(O:l.length<=1000000000):
 Calls Tryz.prog 22 #[.agg #[I,p,n],.string s] w λe h=>∃a u,e=.returned (.tuple #[.int .i64 a,.bool u])/\FindG l s a u/\Ext w h:=by
 have q:=Hd k;obtain⟨r,y,rfl,-⟩:=eP k;obtain⟨Q,b,R,E,-,t,L,M⟩:=nw w (.slice r l.length y) p n 50;obtain⟨K,g,S,F,G,v⟩:=ja b.w (.string s) 9;have m:=b.ext.trans F;have H:=E.trans m;have t:=am t m;have f:=Hd (H.trans g.ext);have C:b.w.heap.size<K.heap.size:=by rw[G];omega
 have U:=@hmf_ Tryz.prog
 have j:=Hd (Ab 52 Bu (λP=>P.name=s) (.pointer (some ⟨b.w.heap.size,0,none⟩)) B l g.w
  (λx d h D=>BH x s ⟨b.w.heap.size,0,none⟩ h (v ⟨h,g.ext.trans D⟩) (aQ C (g.ext.trans D).size))
  (.slice r l.length y) (q.o.extG f.o A) (ad A f.o.size) O)
 clear k E F G m H C q v L M
 go_in
 go_wp2_with fail
 go_at_call 51;refine j.o.mono ?_;rintro _ J ⟨d,(⟨a,N,c,z,rfl⟩|⟨c,rfl⟩)⟩
 ·have T:decide ((0:Int)<=(a:Int))=true:=decide_eq_true zO;have V:max (a:Int) 0=(a:Int):=by omega
  have i:=Hd (show FindG l s a true/\Ext w J from⟨.inl ⟨rfl,a,N,rfl,c,z⟩,f.o.trans d⟩);clear c z d j;go_wp2_with fail
  go_ret2;exact⟨_,_,rfl,i.o⟩
 ·have i:=Hd (show FindG l s 0 false/\Ext w J from⟨.inr ⟨rfl,rfl,c⟩,f.o.trans d⟩);clear c d j;go_wp2_with fail
  go_ret2;exact⟨_,_,rfl,i.o⟩
def RZ(z:Int)(a:List Value):Prop:=a=[.int .i64 z]
theorem tH:(Tryz.prog.info? 3).map (λi=>(i.zero,i.size,i.bytes))=some (some (.int .i64 0),1,8):=by kernel_rfl
theorem Blk.flat_one{w:World}{g:Nat}{t:TypeId}{v:Value}(h:Blk w g t [v])(a:v.oneCell'=true):Flat w 1 (some ⟨g,0,none⟩) 1 [v]:=
 ⟨rfl,(by intro c b;rw[List.mem_singleton.1 b];exact a),λ_=>⟨_,_,rfl,h.cells⟩⟩
theorem zJ(B:Nat)(l:List Sg)(b:Int)(w:World)(a1 r q:Value)(N:Sl RSg w B 4 l a1)(op:r.oneCell'=true)(e1:q.oneCell'=true)(d2:B<=w.heap.size)(e0:l.length<=1000000000):
 Calls Tryz.prog 24 #[.agg #[a1,r,q],.int .i64 b] w λe C=>∃v,e=.returned v/\Sl RZ C C.heap.size 1 (cD b 0 l) v/\Ext w C:=by
 obtain⟨G,H,rfl,X⟩:=eP N;have a8:=Hd X;obtain⟨b2,O,Z,n⟩:=eS w (.slice G l.length H) r q 50;have d3:=O.symm;have e3:w.heap.size<b2.heap.size:=n.lt;have b1:=Hd Z;have a5:=Hd n;have t:=n.cell 0;simp only[List.getElem?_cons_zero] at t;clear N X O Z n
 go_in
 go_wp2_with fail
 go_loopw [4,10] (λc6 A wr=>∃a:Nat,∃o,a<=l.length/\A=.int .i64 a/\o=c6/\OwnL RZ (w.heap.size+1) 3 1 (cD b 0 (l.take a)) o wr/\Ext w wr/\Blk wr w.heap.size 50 [.slice G l.length H,r,q]) (λ_ A _=>l.length - (intOf A).toNat)
 case atStart=>exact⟨0,_,aA _,rfl,rfl,OwnL.none_,b1.o,a5.o⟩
 case round=>
  obtain⟨a,o,d7,rfl,rfl,V,Y,c⟩:=hrel;have t:=c.cell 0;simp only[List.getElem?_cons_zero] at t;have i:=Hd V;have j:=Hd Y;have D:=Hd c;have c0:w.heap.size+1<=wr.heap.size:=c.lt;clear V c Y;by_cases U:a<l.length
  ·obtain⟨m,e2,rfl,d6,M⟩:=a8.o a U;obtain⟨I,J,K,L⟩:=(M.ext j.o).get4;have z:=AX (k:=b) U;have b6:(cD b 0 (l.take a)).length<=1000000000:=by
    have:=oj b (l.take a) 0;rw[List.length_take] at this;omega
   obtain⟨u,T⟩:∃u:Sg,u=l[a]:=⟨_,rfl⟩;rw[<-T] at I J K L z;have g:=Hd z;clear M T z;obtain⟨c3,c7,p,c2⟩:=u;simp only at I J K L g;obtain⟨E,P,a0,R⟩:=bK wr (.string c3) (.int .i64 c7) (.int .i64 p) (.int .u64 c2) 57;have d4:=P.symm;obtain⟨c8,c9,d0,d1⟩:=R.get4;have d:=Hd a0;clear P a0 R;obtain⟨c4,c5,b8⟩:=i.o.form;generalize b7:cD b 0 (l.take a)=lk at*;clear b7;subst b8;by_cases f:p=b
   ·have s:=Hd (g.o.trans (if_pos f));have d9:(p==b)=true:=beq_iff_eq.2 f;clear g;subst f;obtain⟨F,Q,h,S⟩:=aL E (.int .i64 a) 3;have d5:=Q.symm;have a9:=Hd (i.o.later (d.o.trans h));have b3:=Hd (j.o.trans (d.o.trans h));have a2:=Hd (D.o.ext (d.o.trans h));have a6:=Hd (show Flat F 1 (some ⟨E.heap.size,0,none⟩) 1 [.int .i64 a] from S.flat_one rfl);have a7:=Hd (show Fl RZ 1 [(a:Int)] [.int .i64 a] from Fl.one_ rfl (by intro e4 c1;rw[List.mem_singleton.1 c1];rfl) rfl);have b9:w.heap.size+1<=F.heap.size:=ad c0 (d.o.trans h).size;clear Q h S;go_wp2_with (at_builtin;refine kS rfl _ _ 77 rfl (w.heap.size+1) 3 _ 1 8 tH underlying77 rfl zD zD lk [(a:Int)] (.slice c4 lk.length c5) rfl a9.o _ 1 _ rfl a6.o a7.o b6 zS b9 ?_;intro e5 e6 W x y;have b4:=Hd (b3.o.grown x (λm c=>by have:=y m c;omega));have b0:=Hd W;have a3:=Hd (zx a2.o x (λm c=>by have:=y m c;omega));clear W x y)
    go_roundw;case rel=>exact⟨a+1,_,zO,zN,rfl,by rw[s.o];exact b0.o,b4.o,a3.o⟩
    case measure=>simp[intOf];omega
   ·have s:=Hd (g.o.trans (if_neg f));have d8:(p==b)=false:=beq_eq_false_iff_ne.2 f;clear g f;go_wp2_with fail
    go_roundw;case rel=>exact⟨a+1,_,zO,zN,rfl,by rw[s.o];exact i.o.later d.o,j.o.trans d.o,D.o.ext d.o⟩
    case measure=>simp[intOf];omega
  ·have b5:a=l.length:=by omega
   subst b5;have a4:=Hd (show Sl RZ wr wr.heap.size 1 (cD b 0 l) o from by have:=i.o.sl zD;rwa[List.take_length] at this);go_wp2_with fail
   go_ret;exact⟨_,rfl,a4.o,j.o⟩
theorem mP(x:DE):0<nE x:=by rw[fd];omega
theorem mQ(x:DT):0<nT x:=by rw[fe];omega
theorem SlT.open_{α:Type}{T:TypeId}{R:α->List Value->Prop}{w:World}{f:Nat}{l:List α}{v:Value}(h:SlT T R w f l v):∃b d,v=.slice b l.length d/\∀k (e:k<l.length),∃c o a,b=some ⟨c,o,none⟩/\Cells w c (o+k*f) a/\(∀v,v∈a->v.oneCell'=true)/\R l[k] a:=by
 obtain⟨b,d,rfl,-,m⟩:=h;refine⟨b,d,rfl,λk e=>?_⟩;obtain⟨c,o,a,ha,-,-,i,g,j⟩:=m k e;exact⟨c,o,a,ha,i,g,j⟩
structure DsnR(w:World)(d:Dsn)(vs vp vc:Value):Prop where
 sig:Sl RSg w w.heap.size 4 d.sigs vs
 prc:SlT 70 (RPc w) w 2 d.procs vp
 chk:SlT 62 (RCk w) w 9 d.chks vc
theorem SlT.ext{α:Type}{T:TypeId}{R g:α->List Value->Prop}{w e:World}{d:Nat}{l:List α}{v:Value}(h:SlT T R w d l v)(C:Ext w e)(t:∀f,f∈l->∀c,R f c->g f c):SlT T g e d l v:=by
 obtain⟨p,q,B,x,z⟩:=h;refine⟨p,q,B,x,λn j=>?_⟩;obtain⟨b,o,c,ha,k,y,s,r,u⟩:=z n j;have i:e.heap[b]? =w.heap[b]? :=C.heap k.lt;exact⟨b,o,c,ha,k.of_eq i,y,λm D A=>(ek (a:=⟨b,o+n*d+m,none⟩) i).trans (s m D A),r,t _ (an j) _ u⟩
theorem DsnR.ext{w g:World}{d:Dsn}{f e c:Value}(h:DsnR w d f e c)(a:Ext w g):DsnR g d f e c:=
 ⟨h.sig.keep (λj i=>a.cell zO) a.size (λ_ _ _ h=>h),h.prc.ext a (λb _=>RPc.keep a.kp b),h.chk.ext a (λb _=>RCk.keep a.kp b)⟩
theorem DsnR.one{w:World}{d:Dsn}{c b a:Value}(h:DsnR w d c b a):c.oneCell'=true/\b.oneCell'=true/\a.oneCell'=true:=by
 obtain⟨e,f,rfl,-⟩:=eP h.sig;exact⟨rfl,h.prc.oneCell,h.chk.oneCell⟩
def gF(d:Dsn):Nat:=d.sigs.length+d.procs.length+wD d
def jy(l:List DE):Prop:=∀(w:World) (v:Value) (a:Int),SlE8 w l v->(aa nE l:Int)<=a->a<=1000000->Calls Tryz.prog 48 #[v,.int .i64 a] w λe b=>e=.returned (.int .i64 (aa nE l))/\Ext w b
theorem jr{α:Type}(f:α->Nat)(l:List α){k:Nat}(h:k<l.length):aa f (l.take (k+1))=aa f (l.take k)+f l[k]:=by
 rw[List.take_succ_eq_append_getElem h,mm]
theorem oG(l:List DE)(r:∀x,x∈l->jy x.l):jy l:=by
 intro w v M y a5 a7;have a6:=aw nE l mP;obtain⟨N,P,rfl,t⟩:=SlT.open_ y;have E:=Hd t;have C:=Hd r;clear y t r;go_enter func48,ntmps48;go_wp2_with fail
 go_loopw [5,6] (λn k wr=>∃a:Nat,a<=l.length/\k=.int .i64 a/\n=.int .i64 (aa nE (l.take a))/\Ext w wr) (λ_ k _=>l.length - (intOf k).toNat)
 case atStart=>exact⟨0,aA _,rfl,rfl,af _⟩
 case round=>
  obtain⟨a,a4,rfl,rfl,c⟩:=hrel;have m:=Hd c;have K:=bu nE l a;have h:decide ((aa nE (l.take a):Int)<=M)=true:=decide_eq_true zO;by_cases i:a<l.length
  ·obtain⟨O,o,Q,rfl,q,-,g⟩:=E.o a i;have b:=jr nE l i;have L:=bu nE l (a+1);have p:=Hd (C.o l[a] (an i));obtain⟨x,A⟩:∃x,x=l[a]:=⟨_,rfl⟩;rw[<-A] at g b p;have J:=fd x;obtain⟨a8,rfl,u⟩:=RE8_iff.1 g;obtain⟨R,S,T,U,V,W,X,Y⟩:=(q.ext c).get8;have F:=Hd (SlE8.keep u c.kp);have G:=Hd b;obtain⟨d,j⟩:∃d,d=aa nE (l.take a):=⟨_,rfl⟩;obtain⟨e,s⟩:∃e,e=aa nE x.l:=⟨_,rfl⟩;rw[<-j] at h b K⊢;have a3:d+1+e<=aa nE l:=by omega
   have f:=Hd s;have D:=Hd j;clear q g u A c j s b J L;go_wp2_with fail
   go_at_call 48;try simp(disch:=omega) only[IntWalk.i64_in]
   refine(p.o _ _ _ F.o (by have:=f.o;omega) zO).mono ?_;rintro _ a9 ⟨rfl,z⟩;rw[<-f.o];have H:=Hd (m.o.trans z);have B:=Hd (show(aa nE (l.take (a+1)):Int)=(d:Int)+1+(e:Int) by have Z:=G.o;have a0:=D.o;have a1:=f.o;have a2:=fd x;omega);clear z h;go_wp2_with fail
   go_roundw;case rel=>exact⟨a+1,zO,zN,by rw[B.o],H.o⟩
   case measure=>simp[intOf];omega
  ·have I:a=l.length:=by omega
   subst I;rw[List.take_length] at h⊢;go_wp2_with fail
   go_ret;exact⟨rfl,m.o⟩
theorem Az(x:DE):jy x.l:=by
 induction x using DE.ind with
 |h x ih=>exact oG x.l ih
theorem oH(l:List DE):jy l:=oG l λx _=>Az x
def jw(l:List DT):Prop:=∀(w:World) (v:Value) (a:Int),SlT6 w l v->(aa nT l:Int)<=a->a<=1000000->Calls Tryz.prog 47 #[v,.int .i64 a] w λe b=>e=.returned (.int .i64 (aa nT l))/\Ext w b
theorem qU(l:List DT)(E:∀x,x∈l->jw x.l):jw l:=by
 intro w v a2 K b4 b6;have b5:=aw nT l mQ;obtain⟨a3,a5,rfl,H⟩:=SlT.open_ K;have R:=Hd H;have P:=Hd E;clear K H E;go_enter func47,ntmps47;go_wp2_with fail
 go_loopw [5,6] (λn s wr=>∃a:Nat,a<=l.length/\s=.int .i64 a/\n=.int .i64 (aa nT (l.take a))/\Ext w wr) (λ_ s _=>l.length - (intOf s).toNat)
 case atStart=>exact⟨0,aA _,rfl,rfl,af _⟩
 case round=>
  obtain⟨a,b3,rfl,rfl,b⟩:=hrel;have t:=Hd b;have a0:=bu nT l a;have p:decide ((aa nT (l.take a):Int)<=a2)=true:=decide_eq_true zO;by_cases q:a<l.length
  ·obtain⟨a4,o,a6,rfl,k,-,m⟩:=R.o a q;have c:=jr nT l q;have a1:=bu nT l (a+1);have u:=Hd (P.o l[a] (an q));obtain⟨x,M⟩:∃x,x=l[a]:=⟨_,rfl⟩;rw[<-M] at m c u;have Z:=fe x;obtain⟨b7,b8,rfl,I,J⟩:=RT6_iff.1 m;obtain⟨y,z,A,B,C,D⟩:=(k.ext b).get6;have N:=Hd (k.ext b);have S:=Hd (SlE8.keep I b.kp);have T:=Hd (SlT6.keep J b.kp);have V:=Hd c;obtain⟨f,r⟩:∃f,f=aa nT (l.take a):=⟨_,rfl⟩;obtain⟨g,F⟩:∃g,g=aa nE x.e:=⟨_,rfl⟩;obtain⟨h,G⟩:∃h,h=aa nT x.l:=⟨_,rfl⟩;rw[<-r] at p c a0⊢;have b2:f+1+g+h<=aa nT l:=by omega
   have i:=Hd F;have j:=Hd G;have Q:=Hd r;clear k m I J M b r F G c Z a1;go_wp2_with fail
   go_at_call 48;try simp(disch:=omega) only[IntWalk.i64_in]
   refine(oH x.e _ _ _ S.o (by have:=i.o;omega) zO).mono ?_;rintro _ b9 ⟨rfl,d⟩;rw[<-i.o];have U:=Hd (SlT6.keep T.o d.kp);have W:=Hd (t.o.trans d);clear y z A B C D;obtain⟨y,z,A,B,C,D⟩:=(N.o.ext d).get6;clear d p;go_wp2_with fail
   go_at_call 47;try simp(disch:=omega) only[IntWalk.i64_in]
   refine(u.o _ _ _ U.o (by have:=j.o;omega) zO).mono ?_;rintro _ c0 ⟨rfl,L⟩;rw[<-j.o];have X:=Hd (W.o.trans L);have O:=Hd (show(aa nT (l.take (a+1)):Int)=(f:Int)+1+(g:Int)+(h:Int) by have a7:=V.o;have a8:=Q.o;have a9:=i.o;have b0:=fe x;have b1:=j.o;omega);clear L;go_wp2_with fail
   go_roundw;case rel=>exact⟨a+1,zO,zN,by rw[O.o],X.o⟩
   case measure=>simp[intOf];omega
  ·have Y:a=l.length:=by omega
   subst Y;rw[List.take_length] at p⊢;go_wp2_with fail
   go_ret;exact⟨rfl,t.o⟩
theorem wK(x:DT):jw x.l:=by
 induction x using DT.ind with
 |h x ih=>exact qU x.l ih
theorem wJ(l:List DT):jw l:=qU l λx _=>wK x
theorem yF(d:Dsn)(w:World)(a8 a7 a6:Value)(h:DsnR w d a8 a7 a6)(c4:gF d<=70000):
 Calls Tryz.prog 17 #[.agg #[a8,a7,a6]] w λe d1=>e=.returned (.bool true)/\Ext w d1:=by
 have d2:=Hd h;have e1:aa wC d.chks=d.chks.length+aa (λb=>nE b.e) d.chks:=by
  have:∀l:List Ck,aa wC l=l.length+aa (λb=>nE b.e) l:=by
   intro l;induction l with
   |nil=>rfl
   |cons b r ih=>
    show wC b+aa wC r=_;rw[ih];show 1+nE b.e+_=r.length+1+(nE b.e+_);omega
  exact this _
 have c1:d.sigs.length+d.procs.length+(aa wP d.procs+(d.chks.length+aa (λb=>nE b.e) d.chks))<=70000:=by unfold gF wD at c4;omega
 obtain⟨c8,c9,rfl,-⟩:=eP h.sig;obtain⟨b4,b5,rfl,a1⟩:=SlT.open_ h.chk;obtain⟨c6,c7,rfl,a3⟩:=SlT.open_ h.prc;have b0:=Hd a3;have a9:=Hd a1;obtain⟨V,Z,a4,z⟩:=eS w (.slice c8 d.sigs.length c9) (.slice c6 d.procs.length c7) (.slice b4 d.chks.length b5) 50;have b9:=Z.symm;have S:=Hd z;obtain⟨F,G,H⟩:=z.get3;have t:=Hd a4;obtain⟨n,a2⟩:∃n:Nat,n=d.sigs.length+d.procs.length+d.chks.length:=⟨_,rfl⟩;clear h a3 a1 Z a4 z
 go_in
 go_wp2_with fail
 go_loopw [3,4] (λR p wr=>∃a:Nat,a<=d.procs.length/\p=.int .i64 a/\R=.int .i64 ((n+aa wP (d.procs.take a):Nat):Int)/\Ext V wr) (λ_ p _=>d.procs.length - (intOf p).toNat)
 case atStart=>exact⟨0,aA _,rfl,by rw[List.take_zero];show _=Value.int .i64 ((n+0:Nat):Int);rw[a2];go_num,af _⟩
 case round=>
  obtain⟨a,c3,rfl,rfl,c⟩:=hrel;have M:=Hd c;have D:=bu wP d.procs a;have i:decide (((n+aa wP (d.procs.take a):Nat):Int)<=70000)=true:=decide_eq_true zO;clear b9 F G H;obtain⟨F,G,H⟩:=(S.o.ext c).get3;by_cases A:a<d.procs.length
  ·obtain⟨b3,o,W,rfl,q,-,y⟩:=b0.o a A;have j:=jr wP d.procs A;have Q:=bu wP d.procs (a+1);obtain⟨x,E⟩:∃x,x=d.procs[a]:=⟨_,rfl⟩;rw[<-E] at y j;obtain⟨e4,rfl,C⟩:=y;obtain⟨b6,b7⟩:=(q.ext (t.o.trans c)).get2;have K:=Hd (SlT6.keep C (t.o.trans c).kp);have L:=Hd j;obtain⟨f,m⟩:∃f,f=n+aa wP (d.procs.take a):=⟨_,rfl⟩;obtain⟨g,B⟩:∃g,g=aa nT x.l:=⟨_,rfl⟩;rw[<-m] at i⊢;have z:f+g<=70000:=by have:wP x=aa nT x.l:=rfl;omega
   have k:=Hd B;have J:=Hd m;clear q C E c m B j Q D;go_wp2_with fail
   go_at_call 47;try simp(disch:=omega) only[IntWalk.i64_in]
   refine(wJ x.l _ _ _ K.o (by have:=k.o;omega) zO).mono ?_;rintro _ e5 ⟨rfl,s⟩;rw[<-k.o];have N:=Hd (M.o.trans s);have I:=Hd (show((n+aa wP (d.procs.take (a+1)):Nat):Int)=(f:Int)+(g:Int) by have h:=L.o;have X:=J.o;have b8:=k.o;have e0:wP x=aa nT x.l:=rfl;omega);clear s i;go_wp2_with fail
   go_roundw;case rel=>exact⟨a+1,zO,zN,by rw[I.o],N.o⟩
   case measure=>simp[intOf];omega
  ·have P:a=d.procs.length:=by omega
   subst P;rw[List.take_length] at i D⊢;clear c;go_wp2_with fail
   go_loopw [3,5] (λR p wr=>∃a:Nat,a<=d.chks.length/\p=.int .i64 a/\R=.int .i64 ((n+aa wP d.procs+aa (λb=>nE b.e) (d.chks.take a):Nat):Int)/\Ext V wr) (λ_ p _=>d.chks.length - (intOf p).toNat)
   case atStart=>exact⟨0,aA _,rfl,by rw[List.take_zero];rfl,M.o⟩
   case round=>
    obtain⟨a,c3,rfl,rfl,c⟩:=hrel;have M:=Hd c;have D:=bu (λb=>nE b.e) d.chks a;have i:decide (((n+aa wP d.procs+aa (λb=>nE b.e) (d.chks.take a):Nat):Int)<=70000)=true:=decide_eq_true zO;clear F G H;obtain⟨F,G,H⟩:=(S.o.ext c).get3;by_cases A:a<d.chks.length
    ·obtain⟨b3,o,W,rfl,q,-,y⟩:=a9.o a A;have j:=jr (λb=>nE b.e) d.chks A;have Q:=bu (λb=>nE b.e) d.chks (a+1);obtain⟨x,E⟩:∃x,x=d.chks[a]:=⟨_,rfl⟩;rw[<-E] at y j;obtain⟨e3,x⟩:=x;obtain⟨W,rfl,u⟩:=y;simp only at u j q;obtain⟨d0,rfl,C⟩:=RE8_iff.1 u;have e2:=C.oneCell;obtain⟨b6,b7,d3,d4,d5,d6,d7,d8,d9⟩:=(q.ext (t.o.trans c)).get9;obtain⟨b2,a0,s,O⟩:=de wr (.int .i64 x.op) (.int .i64 x.w) (.int .u64 x.v) (.int .i64 x.sig) (.int .i64 x.hi) (.int .i64 x.lo) (.int .i64 x.n) d0 60;have c0:=a0.symm;have K:=Hd (show SlE8 b2 [x] (.slice (some ⟨wr.heap.size,0,none⟩) 1 1) from⟨_,1,rfl,ac _,λc5 c2=>by
      obtain rfl:c5=0:=by simp only[List.length_cons,List.length_nil] at c2;omega
      exact⟨_,0,_,rfl,O.tag,rfl,O.cells,RE8.one u,RE8.keep (t.o.trans (c.trans s)).kp _ _ u⟩⟩)
     have N:=Hd (c.trans s);have L:=Hd j;obtain⟨f,m⟩:∃f,f=n+aa wP d.procs+aa (λb=>nE b.e) (d.chks.take a):=⟨_,rfl⟩;obtain⟨g,B⟩:∃g,g=nE x:=⟨_,rfl⟩;rw[<-m] at i⊢;have z:f+g<=70000:=by omega
     have k:=Hd B;have J:=Hd m;have T:=Hd (show aa nE [x]=nE x by show nE x+0=_;omega);clear q u C E c s O a0 m B j Q D;go_wp2_with fail
     go_at_call 48;try simp(disch:=omega) only[IntWalk.i64_in]
     refine(oH [x] _ _ _ K.o (by have h:=k.o;have X:=T.o;omega) zO).mono ?_;rintro _ e6 ⟨rfl,a5⟩;rw[T.o,<-k.o];have b1:=Hd (N.o.trans a5);have I:=Hd (show((n+aa wP d.procs+aa (λb=>nE b.e) (d.chks.take (a+1)):Nat):Int)=(f:Int)+(g:Int) by have h:=L.o;have X:=J.o;have b8:=k.o;omega);clear a5 i c0;go_wp2_with fail
     go_roundw;case rel=>exact⟨a+1,zO,zN,by rw[I.o],b1.o⟩
     case measure=>simp[intOf];omega
    ·have P:a=d.chks.length:=by omega
     subst P;rw[List.take_length] at i⊢;obtain⟨U,Y⟩:∃U:Nat,U=n+aa wP d.procs+aa (λb=>nE b.e) d.chks:=⟨_,rfl⟩;rw[<-Y] at i⊢;clear D Y a2 c1;go_wp2_with fail
     go_ret;exact⟨rfl,t.o.trans c⟩
theorem vC(B:Nat)(l:List Mdl)(w:World)(v:Value)(h:Sl (RM w B) w B 4 l v)(g:B<=w.heap.size)(p:aa ar l<=1000000000):
 Calls Tryz.prog 13 #[.agg #[v]] w λe b=>e=.returned (.bool (yes (jD (aa ar l) (ai bH l))))/\Ext w b:=by
 have d:=Hd h;have y:=h.oneCell;have x:=jV l;obtain⟨f,u,t,c,z,s⟩:=ja w v 24;have n:B<=f.heap.size:=ad g c.size
 have j:=Hd (show ECalls Tryz.prog 30 #[.agg #[v]] f (.int .i64 (aa ar l)) from
  λb a=>Bh B l b v (d.o.extRM (c.trans a) g) (ad n a.size) p)
 have k:=Hd (show ECalls Tryz.prog 31 #[.agg #[v]] f (.int .i64 (ai bH l)) from
  λb a=>Be B l b v (d.o.extRM (c.trans a) g) (ad n a.size) p)
 obtain⟨q,i⟩:∃q,q=yes (jD (aa ar l) (ai bH l)):=⟨_,rfl⟩;rw[<-i];have m:=Hd i;clear h i d;generalize aa ar l=s1 at*;generalize ai bH l=s2 at*
 go_in
 go_wp2_with (first
  |(go_at_call 30;refine(j.o.at_ _).mono ?_;rintro _ _ ⟨rfl,e,rfl⟩)
  |(go_at_call 31;refine(k.o.at_ _).mono ?_;rintro _ _ ⟨rfl,e,rfl⟩))
 all_goals
  go_ret;refine⟨?_,c.trans (ag _)⟩;rw[m.o];refine congrArg (λr=>Ending.returned (Value.bool r)) ?_;rw[Bool.eq_iff_iff,yes_iff];unfold jD;clear m j k t s;simp at*;try omega
abbrev cNm(s:ByteArray):List Value:=[.int .i64 2,.string s,.int .i64 0,.int .i64 0,.int .u64 0,.slice none 0 0]
abbrev cZ(z:Int):List Value:=[.int .i64 1,.string ⟨#[]⟩,.int .i64 0,.int .i64 0,.int .u64 z,.slice none 0 0]
theorem gN(s:ByteArray)(w:World):
 Calls Tryz.prog 20 #[.string s] w λe a=>e=.returned (.agg #[.int .i64 2,.string s,.int .i64 0,.int .i64 0,.int .u64 0,.slice none 0 0])/\Ext w a:=by
 go_in
 go_wp2
 refine bodyPost_ret (v:=.agg #[.int .i64 2,.string s,.int .i64 0,.int .i64 0,.int .u64 0,.slice none 0 0]) ?_ rfl ⟨rfl,aE _ _⟩;simp[results,results20,go_sem]
theorem lD(z:Int)(h0:0<=z)(c:z<=2147483647)(w:World):
 Calls Tryz.prog 14 #[.int .i64 z] w λe b=>e=.returned (.agg #[.int .i64 1,.string ⟨#[]⟩,.int .i64 0,.int .i64 0,.int .u64 z,.slice none 0 0])/\Ext w b:=by
 have a:IntKind.u64.wrap z=z:=by simp(disch:=omega) only[IntWalk.u64_in]
 go_in
 go_wp2
 refine bodyPost_ret (v:=.agg #[.int .i64 1,.string ⟨#[]⟩,.int .i64 0,.int .i64 0,.int .u64 z,.slice none 0 0]) ?_ rfl ⟨rfl,aE _ _⟩;simp[results,results14,go_sem,a]
theorem Sl.twin{α:Type}{R:α->List Value->Prop}{w:World}{B e g:Nat}{x k:α}{a ds:List Value}(f:g<B)(i:a.length=e)(m:ds.length=e)(h:Cells w g 0 (a++ds))(j:∀v,v∈a++ds->v.oneCell'=true)(n:R x a)(o:R k ds):
 Sl R w B e [x,k] (.slice (some ⟨g,0,none⟩) 2 2):=by
 refine⟨_,2,rfl,ac _,λp l=>?_⟩;match p,l with
 |0,_=>exact⟨g,0,a,rfl,f,i,λd v b=>by
   have:=h d v (by rw[List.getElem?_append_left (List.getElem?_eq_some_iff.1 b).1];exact b);simpa using this,λv c=>j v (List.mem_append_left _ c),n⟩
 |1,_=>exact⟨g,0,ds,rfl,f,m,λd v b=>by
   have:=h (a.length+d) v (by rw[List.getElem?_append_right zO,Nat.add_sub_cancel_left];exact b);rw[i] at this;simpa using this,λv c=>j v (List.mem_append_right _ c),o⟩
theorem Blk.ty{w:World}{g:Nat}{t a:TypeId}{b ds:List Value}(h:Blk w g t b)(k:Blk w g a ds):t=a:=h.tag.one k.tag
abbrev cBn:List Value:=[.string tNn,.int .i64 1,.string ⟨#[]⟩,.int .i64 0,.int .i64 0,.int .u64 2,.slice none 0 0]
abbrev cPt(s:ByteArray)(b:Bool):List Value:=[.string s,.bool b,.int .i64 2,.string tNn,.int .i64 0,.int .i64 0,.int .u64 0,.slice none 0 0]
abbrev gv(u:Value):List Value:=[.int .i64 6,.string ⟨#[]⟩,.int .i64 14,.int .i64 0,.int .u64 0,u]
abbrev cIa(u:Value):List Value:=[.int .i64 4,.string ⟨#[]⟩,.string ⟨#[]⟩,u,.slice none 0 0,.slice none 0 0,.slice none 0 0,.slice none 0 0,.slice none 0 0]
def exB(w:World)(u:Value)(a b h g:Nat):Prop:=Blk w a 45 cBn/\Blk w b 42 (cPt tA false++cPt tY true)/\Blk w h 37 (cIa (.slice (some ⟨g,0,none⟩) 2 2))/\Blk w g 40 (cNm tY++gv u)
def exF(W:World)(u:Value)(i:Nat)(v:Value)(w:World):Prop:=
 if i=2 then∃a,v=.slice (some ⟨a,0,none⟩) 1 1/\Blk w a 45 cBn
 else if i=7 then∃a,v=.slice (some ⟨a,0,none⟩) 2 2/\Blk w a 42 (cPt tA false++cPt tY true)
 else if i=10 then∃a,v=.slice (some ⟨a,0,none⟩) 2 2/\Blk w a 40 (cNm tY++gv u)
 else if i=11 then∃a,v=.agg #[.int .i64 4,.string ⟨#[]⟩,.string ⟨#[]⟩,.slice (some ⟨a,0,none⟩) 2 2,.slice none 0 0,.slice none 0 0,.slice none 0 0,.slice none 0 0,.slice none 0 0]/\Blk w a 40 (cNm tY++gv u)
 else if i=12 then∃b a,v=.slice (some ⟨b,0,none⟩) 1 1/\Blk w b 37 (cIa (.slice (some ⟨a,0,none⟩) 2 2))/\Blk w a 40 (cNm tY++gv u)
 else if i=13 then∃c d b a,v=.agg #[.string tM,.slice (some ⟨c,0,none⟩) 1 1,.slice (some ⟨d,0,none⟩) 2 2,.slice (some ⟨b,0,none⟩) 1 1]/\exB w u c d b a
 else if i=14 then∃a,v=.pointer (some ⟨a,0,none⟩)/\W.heap.size<=a/\Blk w a 30 [.string ⟨#[]⟩,.slice none 0 0,.slice none 0 0,.slice none 0 0]
 else v=[.agg #[.int .i64 1,.string ⟨#[]⟩,.int .i64 0,.int .i64 0,.int .u64 2,.slice none 0 0],.agg #[.string tNn,.int .i64 1,.string ⟨#[]⟩,.int .i64 0,.int .i64 0,.int .u64 2,.slice none 0 0],undef,.agg #[.int .i64 2,.string tNn,.int .i64 0,.int .i64 0,.int .u64 0,.slice none 0 0],.agg #[.string tA,.bool false,.int .i64 2,.string tNn,.int .i64 0,.int .i64 0,.int .u64 0,.slice none 0 0],.agg #[.int .i64 2,.string tNn,.int .i64 0,.int .i64 0,.int .u64 0,.slice none 0 0],.agg #[.string tY,.bool true,.int .i64 2,.string tNn,.int .i64 0,.int .i64 0,.int .u64 0,.slice none 0 0],undef,.agg #[.int .i64 2,.string tY,.int .i64 0,.int .i64 0,.int .u64 0,.slice none 0 0],.agg #[.int .i64 6,.string ⟨#[]⟩,.int .i64 14,.int .i64 0,.int .u64 0,u]].getD i undef
theorem tt{W:World}{u:Value}{i:Nat}{v:Value}{w j:World}(h:exF W u i v w)(d:Ext w j):exF W u i v j:=by
 unfold exF at h⊢;by_cases a:i=2
 ·rw[if_pos a] at h⊢;obtain⟨b,e,c⟩:=h;exact⟨b,e,c.ext d⟩
 rw[if_neg a] at h⊢;by_cases a:i=7
 ·rw[if_pos a] at h⊢;obtain⟨b,e,c⟩:=h;exact⟨b,e,c.ext d⟩
 rw[if_neg a] at h⊢;by_cases a:i=10
 ·rw[if_pos a] at h⊢;obtain⟨b,e,c⟩:=h;exact⟨b,e,c.ext d⟩
 rw[if_neg a] at h⊢;by_cases a:i=11
 ·rw[if_pos a] at h⊢;obtain⟨b,e,c⟩:=h;exact⟨b,e,c.ext d⟩
 rw[if_neg a] at h⊢;by_cases a:i=12
 ·rw[if_pos a] at h⊢;obtain⟨g,b,e,c,f⟩:=h;exact⟨g,b,e,c.ext d,f.ext d⟩
 rw[if_neg a] at h⊢;by_cases a:i=13
 ·rw[if_pos a] at h⊢;obtain⟨k,l,g,b,e,c,f,m,n⟩:=h;exact⟨k,l,g,b,e,c.ext d,f.ext d,m.ext d,n.ext d⟩
 rw[if_neg a] at h⊢;by_cases a:i=14
 ·rw[if_pos a] at h⊢;obtain⟨b,e,c,f⟩:=h;exact⟨b,e,c,f.ext d⟩
 rw[if_neg a] at h⊢;exact h
theorem nW{w:World}{B g1 gs a b h g:Nat}(k:Blk w gs 40 (cNm tA++cNm tNn))(l:exB w (.slice (some ⟨gs,0,none⟩) 2 2) a b h g)(c:w.heap.size<=B):RM w B mMm [.string tM,.slice (some ⟨a,0,none⟩) 1 1,.slice (some ⟨b,0,none⟩) 2 2,.slice (some ⟨h,0,none⟩) 1 1]:=by
 obtain⟨e,f,i,j⟩:=l;have d:∀s,RX w B (xNm s) (cNm s):=λs=>RX_iff.2 ⟨_,rfl,cm⟩
 have n:RX w B xSum (gv (.slice (some ⟨gs,0,none⟩) 2 2)):=RX_iff.2 ⟨_,rfl,Sl.twin (aQ k.lt c) rfl rfl k.cells zV (d tA) (d tNn)⟩;have m:RI w B iAs (cIa (.slice (some ⟨g,0,none⟩) 2 2)):=RI_iff.2 ⟨_,_,_,_,_,_,rfl,Sl.twin (aQ j.lt c) rfl rfl j.cells zV (d tY) n,cm,cm,cm,cm,cm⟩;refine⟨_,_,_,rfl,?_,?_,?_⟩
 ·exact Sl.one (aQ e.lt c) rfl e.cells zV ⟨cZ 2,rfl,RX_iff.2 ⟨_,rfl,cm⟩⟩
 ·exact Sl.twin (aQ f.lt c) rfl rfl f.cells zV ⟨cNm tNn,rfl,d tNn⟩ ⟨cNm tNn,rfl,d tNn⟩
 ·exact Sl.one (aQ i.lt c) rfl i.cells zV m
abbrev cIi(u:Value):List Value:=[.int .i64 7,.string tU,.string tM,.slice none 0 0,.slice none 0 0,.slice none 0 0,.slice none 0 0,.slice none 0 0,u]
abbrev cBd(s:ByteArray)(a:List Value):List Value:=.string s::a
theorem nX{w:World}{B b p h:Nat}(e:Blk w p 42 (.string tY::.bool true::cZ 2))(c:Blk w b 45 (cBd tA (cZ 1)++cBd tY (cNm tY)))(d:Blk w h 37 (cIi (.slice (some ⟨b,0,none⟩) 2 2)))(a:w.heap.size<=B):RM w B mTt [.string tTt,.slice none 0 0,.slice (some ⟨p,0,none⟩) 1 1,.slice (some ⟨h,0,none⟩) 1 1]:=by
 have f:RI w B iIn (cIi (.slice (some ⟨b,0,none⟩) 2 2)):=RI_iff.2 ⟨_,_,_,_,_,_,rfl,cm,cm,cm,cm,cm,Sl.twin (aQ c.lt a) rfl rfl c.cells zV ⟨cZ 1,rfl,RX_iff.2 ⟨_,rfl,cm⟩⟩ ⟨cNm tY,rfl,RX_iff.2 ⟨_,rfl,cm⟩⟩⟩;refine⟨_,_,_,rfl,cm,?_,?_⟩
 ·exact Sl.one (aQ e.lt a) rfl e.cells zV ⟨cZ 2,rfl,RX_iff.2 ⟨_,rfl,cm⟩⟩
 ·exact Sl.one (aQ d.lt a) rfl d.cells zV f
theorem BF(w:World):
 Calls Tryz.prog 29 #[] w λe J=>∃v,e=.returned (.agg #[v])/\Sl (RM J J.heap.size) J J.heap.size 4 fEx v/\Ext w J:=by
 obtain⟨l8,g2,h6,g6⟩:=aL w (.slice none 0 0) 24;have j3:=g2.symm;have e9:=Hd g6;have i6:=Hd h6;clear g2 h6 g6
 go_in
 go_wp2_with fail
 go_at_call 20;refine(gN tA _).mono ?_;rintro _ n9 ⟨rfl,b7⟩;have i7:=Hd (i6.o.trans b7);have f0:=Hd (e9.o.ext b7);clear b7 j3 e9;go_wp2_with fail
 go_at_call 20;refine(gN tNn _).mono ?_;rintro _ q ⟨rfl,b8⟩;obtain⟨L,Z⟩:∃L,L=q.alloc (.cells #[.int .i64 2,.string tA,.int .i64 0,.int .i64 0,.int .u64 0,.slice none 0 0,.int .i64 2,.string tNn,.int .i64 0,.int .i64 0,.int .u64 0,.slice none 0 0] 40):=⟨_,rfl⟩;have j4:=Z.symm;have h1:Blk L q.heap.size 40 (cNm tA++cNm tNn):=by rw[Z];exact ax q _ (cNm tA++cNm tNn)
 have b9:Ext q L:=by rw[Z];exact aE _ _
 obtain⟨l9,i,j5,a4,k2,a7,a8,a9,b0,b1,b2⟩:=cA L (.int .i64 6) (.string ⟨#[]⟩) (.int .i64 14) (.int .i64 0) (.int .u64 0) (.slice (some ⟨q.heap.size,0,none⟩) 2 2) 40;have a7:=am a7 i.ext;have a8:=am a8 i.ext;have a9:=am a9 i.ext;have b0:=am b0 i.ext;have b1:=am b1 i.ext;have b2:=am b2 i.ext;have i8:=Hd (i7.o.trans (b8.trans (b9.trans (a4.trans i.ext))));have f3:=Hd (f0.o.ext (b8.trans (b9.trans (a4.trans i.ext))));have f5:=Hd (h1.ext (a4.trans i.ext));clear b8 Z h1 b9 a4 k2 f0;go_wp2_with fail
 refine bD 15 (W:=i.w) (Ext) (exF i.w (.slice (some ⟨q.heap.size,0,none⟩) 2 2)) (λ_ _=>False) (λ_=>true) zK (bo) zK zK ?_ (af _) (λm9 v w J M g=>tt M g) ?_ (λh m0 w a k0=>k0.elim) ?_
 ·exact⟨rfl,rfl,rfl,rfl,rfl,rfl,rfl,rfl,rfl,rfl,rfl,rfl,rfl,rfl,rfl,trivial⟩
 ·refine⟨?_,?_,?_,?_,?_,?_,?_,?_,?_,?_,?_,?_,?_,?_,?_,trivial⟩
  ·intro h k b a c;obtain⟨d,rfl⟩:=ae b;clear a c;go_simp;refine(lD 2 zD zD d.w).mono ?_;rintro _ e6 ⟨rfl,g⟩;go_simp;first|exact⟨_,rfl,g,rfl⟩|exact⟨g,rfl⟩|exact⟨_,rfl,rfl⟩|exact g
  rotate_left 1
  ·intro h k b a c;obtain⟨d,rfl⟩:=ae b;have k5:=ab a 1 9 zK rfl;simp[exF] at k5;clear a c;go_simp;first|exact⟨_,rfl,aE _ _,_,rfl,ax _ _ cBn⟩|exact⟨aE _ _,_,rfl,ax _ _ cBn⟩
  ·intro h k b a c;obtain⟨d,rfl⟩:=ae b;clear a c;go_simp;refine(gN tNn d.w).mono ?_;rintro _ e6 ⟨rfl,g⟩;go_simp;first|exact⟨_,rfl,g,rfl⟩|exact⟨g,rfl⟩|exact⟨_,rfl,rfl⟩|exact g
  rotate_left 1
  ·intro h k b a c;obtain⟨d,rfl⟩:=ae b;clear a c;go_simp;refine(gN tNn d.w).mono ?_;rintro _ e6 ⟨rfl,g⟩;go_simp;first|exact⟨_,rfl,g,rfl⟩|exact⟨g,rfl⟩|exact⟨_,rfl,rfl⟩|exact g
  rotate_left 1
  ·intro h k b a c;obtain⟨d,rfl⟩:=ae b;have l1:=ab a 4 12 zK rfl;simp[exF] at l1;have l3:=ab a 6 14 zK rfl;simp[exF] at l3;clear a c;go_simp;first|exact⟨_,rfl,aE _ _,_,rfl,ax _ _ (cPt tA false++cPt tY true)⟩|exact⟨aE _ _,_,rfl,ax _ _ (cPt tA false++cPt tY true)⟩
  ·intro h k b a c;obtain⟨d,rfl⟩:=ae b;clear a c;go_simp;refine(gN tY d.w).mono ?_;rintro _ e6 ⟨rfl,g⟩;go_simp;first|exact⟨_,rfl,g,rfl⟩|exact⟨g,rfl⟩|exact⟨_,rfl,rfl⟩|exact g
  rotate_left 1
  ·intro h k b a c;obtain⟨d,rfl⟩:=ae b;have l5:=ab a 8 16 zK rfl;simp[exF] at l5;have l6:=ab a 9 17 zK rfl;simp[exF] at l6;clear a c;go_simp;first|exact⟨_,rfl,aE _ _,_,rfl,ax _ _ (cNm tY++gv (.slice (some ⟨q.heap.size,0,none⟩) 2 2))⟩|exact⟨aE _ _,_,rfl,ax _ _ (cNm tY++gv (.slice (some ⟨q.heap.size,0,none⟩) 2 2))⟩
  ·intro h k b a c;obtain⟨d,rfl⟩:=ae b;obtain⟨p,k6,g7⟩:=ab a 10 18 zK rfl;simp at k6;have X:=Hd g7;clear g7;clear a c;go_simp;first|exact⟨_,rfl,af _,_,rfl,X.o⟩|exact⟨af _,_,rfl,X.o⟩|exact⟨_,rfl,_,rfl,X.o⟩|exact⟨_,rfl,X.o⟩
  ·intro h k b a c;obtain⟨d,rfl⟩:=ae b;obtain⟨p,k7,g8⟩:=ab a 11 19 zK rfl;simp at k7;have f1:=Hd g8;clear g8;clear a c;go_simp;first|exact⟨_,rfl,aE _ _,_,_,rfl,ax _ _ (cIa (.slice (some ⟨p,0,none⟩) 2 2)),f1.o.ext (aE _ _)⟩|exact⟨aE _ _,_,_,rfl,ax _ _ (cIa (.slice (some ⟨p,0,none⟩) 2 2)),f1.o.ext (aE _ _)⟩
  ·intro h k b a c;obtain⟨d,rfl⟩:=ae b;obtain⟨m1,k9,h0⟩:=ab a 2 10 zK rfl;simp at k9;have Y:=Hd h0;clear h0;obtain⟨m2,l4,Q⟩:=ab a 7 15 zK rfl;simp at l4;have A:=Hd Q;clear Q;obtain⟨M,p,k8,g9⟩:=ab a 12 20 zK rfl;simp at k8;have y:=Hd g9;clear g9;clear a c;go_simp;first|exact⟨_,rfl,af _,_,_,_,_,rfl,Y.o,A.o,y.o.1,y.o.2⟩|exact⟨af _,_,_,_,_,rfl,Y.o,A.o,y.o.1,y.o.2⟩|exact⟨_,rfl,_,_,_,_,rfl,Y.o,A.o,y.o.1,y.o.2⟩|exact⟨_,_,_,_,rfl,Y.o,A.o,y.o.1,y.o.2⟩
  ·intro h k b a c;obtain⟨d,rfl⟩:=ae b;clear a c;go_simp;first|exact⟨_,rfl,aE _ _,_,rfl,d.ext.size,ax _ _ [.string ⟨#[]⟩,.slice none 0 0,.slice none 0 0,.slice none 0 0]⟩|exact⟨aE _ _,_,rfl,d.ext.size,ax _ _ [.string ⟨#[]⟩,.slice none 0 0,.slice none 0 0,.slice none 0 0]⟩
  all_goals
   intro h k b a c;obtain⟨d,rfl⟩:=ae b;try (have k4:=ab a 0 8 zD rfl;simp[exF] at k4)
   try (have l0:=ab a 3 11 zD rfl;simp[exF] at l0)
   try (have l2:=ab a 5 13 zD rfl;simp[exF] at l2)
   have l7:=ah c 1 zK;simp at l7;clear a c;exact zA
 ·intro h k j8;obtain⟨g0,rfl,b,b5,f⟩:=j8.fin (n:=37) rfl;obtain⟨d,rfl⟩:=ae b;have c4:=f 0 zK;have c5:=f 1 zK;have d4:=f 3 zK;have e2:=f 4 zK;have e3:=f 5 zK;have e4:=f 6 zK;have e5:=f 7 zK;have c6:=f 22 zK;have c7:=f 23 zK;have c8:=f 24 zK;have c9:=f 25 zK;have d0:=f 26 zK;have d1:=f 27 zK;have d2:=f 28 zK;have d3:=f 29 zK;have d5:=f 30 zK;have d6:=f 31 zK;have d7:=f 32 zK;have d8:=f 33 zK;have d9:=f 34 zK;have e0:=f 35 zK;have e1:=f 36 zK;obtain⟨D,i0,a3,P⟩:=(show∃p,g0 2=.pointer (some ⟨p,0,none⟩)/\i.w.heap.size<=p/\Blk d.w p 30 [.string ⟨#[]⟩,.slice none 0 0,.slice none 0 0,.slice none 0 0] from b5 14 2 rfl rfl);obtain⟨E,F,G,j2,i1,S⟩:=(show∃f8 f9 M p,g0 21=.agg #[.string tM,.slice (some ⟨f8,0,none⟩) 1 1,.slice (some ⟨f9,0,none⟩) 2 2,.slice (some ⟨M,0,none⟩) 1 1]/\exB d.w (.slice (some ⟨q.heap.size,0,none⟩) 2 2) f8 f9 M p from b5 13 21 rfl rfl);clear b5 f;simp at c4 c5 d4 e2 e3 e4 e5 c6 c7 c8 c9 d0 d1 d2 d3 d5 d6 d7 d8 d9 e0 e1;simp only[List.drop_succ_cons,List.drop_zero];simp[List.range,List.range.loop,c4,c5,d4,e2,e3,e4,e5,c6,c7,c8,c9,d0,d1,d2,d3,d5,d6,d7,d8,d9,e0,e1,i0,i1];clear c4 c5 d4 e2 e3 e4 e5 c6 c7 c8 c9 d0 d1 d2 d3 d5 d6 d7 d8 d9 e0 e1 i0 i1;obtain⟨o5,o6,o7,o8⟩:=P.get4;obtain⟨o1,o2,o3,o4⟩:=P.free4;have h9:=d.ext;obtain⟨C,N⟩:∃C,C=((((d.w.setCell ⟨D,0,none⟩ (.string tM)).setCell ⟨D,1,none⟩ (.slice (some ⟨E,0,none⟩) 1 1)).setCell ⟨D,2,none⟩ (.slice (some ⟨F,0,none⟩) 2 2)).setCell ⟨D,3,none⟩ (.slice (some ⟨G,0,none⟩) 1 1)):=⟨_,rfl⟩;have j6:=N.symm;have far:∀{x:TypeId} {B:List Value} {u:Nat},Blk d.w u x B->x≠30->Blk C u x B:=λ{x B u} O b6=>by
   have I:u≠D:=λe=>b6 (Blk.ty (e▸O) P)
   rw[N];exact(((O.far I _).far I _).far I _).far I _
  have h5:Blk C D 30 [.string tM,.slice (some ⟨E,0,none⟩) 1 1,.slice (some ⟨F,0,none⟩) 2 2,.slice (some ⟨G,0,none⟩) 1 1]:=by rw[N];exact P.store4 _ _ _ _
  have a5:Ext i.w C:=by rw[N];exact(((h9.setCell a3 _).setCell a3 _).setCell a3 _).setCell a3 _
  have z:=Hd (show exB C (.slice (some ⟨q.heap.size,0,none⟩) 2 2) E F G j2 from⟨far S.1 zD,far S.2.1 zD,far S.2.2.1 zD,far S.2.2.2 zD⟩);have i3:=Hd h5;have i9:=Hd (i8.o.trans a5);have f4:=Hd (f3.o.ext a5);have f6:=Hd (f5.o.ext a5);clear P S h9 N far h5 a5 j4 j5 a7 a8 a9 b0 b1 b2 f3 f5;go_wp2_with fail
  go_at_call 14;refine(lD 2 zD zD _).mono ?_;rintro _ K ⟨rfl,h7⟩;obtain⟨i4,g3,h8,Q⟩:=de K (.string ⟨#[121]⟩) (.bool true) (.int .i64 1) (.string ⟨#[]⟩) (.int .i64 0) (.int .i64 0) (.int .u64 2) (.slice none 0 0) 42;have j7:=g3.symm;have j0:=Hd (h7.trans h8);have A:=Hd (show Blk i4 K.heap.size 42 (.string tY::.bool true::cZ 2) from Q);clear h7 g3 h8 Q j6;go_wp2_with fail
  go_at_call 14;refine(lD 1 zD zD _).mono ?_;rintro _ o0 ⟨rfl,c0⟩;have j1:=Hd (j0.o.trans c0);have f2:=Hd (A.o.ext c0);clear c0 j7 A;go_wp2_with fail
  go_at_call 20;refine(gN tY _).mono ?_;rintro _ V ⟨rfl,c1⟩;obtain⟨r,a0⟩:∃r,r=V.alloc (.cells #[.string ⟨#[97]⟩,.int .i64 1,.string ⟨#[]⟩,.int .i64 0,.int .i64 0,.int .u64 1,.slice none 0 0,.string ⟨#[121]⟩,.int .i64 2,.string tY,.int .i64 0,.int .i64 0,.int .u64 0,.slice none 0 0] 45):=⟨_,rfl⟩;have m3:=a0.symm;have b3:Blk r V.heap.size 45 (cBd tA (cZ 1)++cBd tY (cNm tY)):=by rw[a0];exact ax V _ (cBd tA (cZ 1)++cBd tY (cNm tY))
  have c2:Ext V r:=by rw[a0];exact aE _ _
  obtain⟨i5,g4,c3,b4⟩:=bM r (.int .i64 7) (.string ⟨#[117]⟩) (.string ⟨#[109]⟩) (.slice none 0 0) (.slice none 0 0) (.slice none 0 0) (.slice none 0 0) (.slice none 0 0) (.slice (some ⟨V.heap.size,0,none⟩) 2 2) 37;have m4:=g4.symm;obtain⟨s,g5,T,h2⟩:=bK i5 (.string ⟨#[116]⟩) (.slice none 0 0) (.slice (some ⟨K.heap.size,0,none⟩) 1 1) (.slice (some ⟨r.heap.size,0,none⟩) 1 1) 30;have m5:=g5.symm;have f7:=Hd (j1.o.trans (c1.trans (c2.trans (c3.trans T))));obtain⟨n0,n1,n2,n3⟩:=(i3.o.ext f7.o).get4;obtain⟨n4,n5,n6,n7⟩:=h2.get4;obtain⟨l,a1⟩:∃l,l=s.alloc (.cells #[.string tM,.slice (some ⟨E,0,none⟩) 1 1,.slice (some ⟨F,0,none⟩) 2 2,.slice (some ⟨G,0,none⟩) 1 1,.string ⟨#[116]⟩,.slice none 0 0,.slice (some ⟨K.heap.size,0,none⟩) 1 1,.slice (some ⟨r.heap.size,0,none⟩) 1 1] 30):=⟨_,rfl⟩;have m6:=a1.symm;have a2:Blk l s.heap.size 30 ([.string tM,.slice (some ⟨E,0,none⟩) 1 1,.slice (some ⟨F,0,none⟩) 2 2,.slice (some ⟨G,0,none⟩) 1 1]++[.string tTt,.slice none 0 0,.slice (some ⟨K.heap.size,0,none⟩) 1 1,.slice (some ⟨r.heap.size,0,none⟩) 1 1]):=by rw[a1];exact ax s _ ([.string tM,.slice (some ⟨E,0,none⟩) 1 1,.slice (some ⟨F,0,none⟩) 2 2,.slice (some ⟨G,0,none⟩) 1 1]++[.string tTt,.slice none 0 0,.slice (some ⟨K.heap.size,0,none⟩) 1 1,.slice (some ⟨r.heap.size,0,none⟩) 1 1])
  have U:Ext s l:=by rw[a1];exact aE _ _
  have a6:=c3.trans (T.trans U);have e7:=c1.trans (c2.trans a6);have j:=f7.o.trans U
  have k1:Sl (RM l l.heap.size) l l.heap.size 4 fEx (.slice (some ⟨s.heap.size,0,none⟩) 2 2):=
   Sl.twin a2.lt rfl rfl a2.cells zV
    (nW (g1:=0) (f6.o.ext j) (by exact⟨z.o.1.ext j,z.o.2.1.ext j,z.o.2.2.1.ext j,z.o.2.2.2.ext j⟩) (ac _))
    (nX (f2.o.ext e7) (b3.ext a6) (b4.ext (T.trans U)) (ac _))
  have R:=f4.o.ext j;have k3:=R.cell 0;simp only[List.getElem?_cons_zero] at k3;have n8:=R.frozen 0;have j9:=f4.o.lt;obtain⟨m,H⟩:∃m,m=l.setCell ⟨w.heap.size,0,none⟩ (.slice (some ⟨s.heap.size,0,none⟩) 2 2):=⟨_,rfl⟩;have m7:=H.symm;have h4:Blk m w.heap.size 24 [.slice (some ⟨s.heap.size,0,none⟩) 2 2]:=by rw[H];exact R.store1 _
  have i2:=h4.cell 0;simp only[List.getElem?_cons_zero] at i2;have e8:=Hd (show Sl (RM m m.heap.size) m m.heap.size 4 fEx (.slice (some ⟨s.heap.size,0,none⟩) 2 2)/\Ext w m from by
   refine⟨?_,by rw[H];exact(i9.o.trans j).setCell (ac _) _⟩;have t:∀{x:TypeId} {B:List Value} {u:Nat},Blk l u x B->x≠24->Blk m u x B:=λ{x B u} O b6=>by
    have I:u≠w.heap.size:=λe=>b6 (Blk.ty (e▸O) R)
    rw[H];exact O.far I _
   have m8:m.heap.size=l.heap.size:=by rw[H];simp[World.setCell]
   have h3:=t a2 zD
   exact Sl.twin h3.lt rfl rfl h3.cells zV
    (nW (g1:=0) (t (f6.o.ext j) zD) (by exact⟨t (z.o.1.ext j) zD,t (z.o.2.1.ext j) zD,t (z.o.2.2.1.ext j) zD,t (z.o.2.2.2.ext j) zD⟩) (ac _))
    (nX (t (f2.o.ext e7) zD) (t (b3.ext a6) zD) (t (b4.ext (T.trans U)) zD) (ac _)))
  clear c1 a0 b3 c2 g4 c3 b4 g5 T h2 a1 a2 U a6 e7 j k1 R j9 H h4;go_wp2_with fail
  refine bodyPost_ret (v:=.agg #[.slice (some ⟨s.heap.size,0,none⟩) 2 2]) ?_ rfl ⟨_,rfl,e8.o.1,e8.o.2⟩;simp[results,results29,go_sem,i2]
end
