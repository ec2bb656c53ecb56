import Derived.Test.YtlfmlodanoolhaaGreatDoorY35
import Derived.Test.YtlfmlodanoolhaaGreatDoorY37
set_option linter.all false
set_option maxRecDepth 200000
set_option maxHeartbeats 32000000
namespace Go.Proofs.YtlfmlodanoolhaaGreatDoor
open Go Go.RowKit Go.Proofs.Tryz
def tTt:ByteArray:=⟨#[116]⟩
def tNn:ByteArray:=⟨#[78]⟩
def tMm:ByteArray:=⟨#[77]⟩
def tXx:ByteArray:=⟨#[120]⟩
def xZ(z:Int):X:=.mk 1 ⟨#[]⟩ 0 0 z []
def xSum:X:=.mk 6 ⟨#[]⟩ 14 0 0 [xNm tA,xNm tNn]
def iAs:Itm:=.mk 4 ⟨#[]⟩ ⟨#[]⟩ [xNm tY,xSum] [] [] [] [] []
def mMm:Mdl:=⟨tM,[⟨tNn,xZ 2⟩],[⟨tA,false,xNm tNn⟩,⟨tY,true,xNm tNn⟩],[iAs]⟩
def iIn:Itm:=.mk 7 tU tM [] [] [] [] [] [⟨tA,xZ 1⟩,⟨tY,xNm tY⟩]
def mTt:Mdl:=⟨tTt,[],[⟨tY,true,xZ 2⟩],[iIn]⟩
def fEx:List Mdl:=[mMm,mTt]
theorem iu:bf tNn:=⟨zD,zD,zD,zD⟩
theorem tZ:bf tTt:=⟨zD,zD,zD,zD⟩
theorem tT:MayX xSum:=.mk _ ⟨.inr (.inr (.inl ⟨.inr (.inl rfl),rfl⟩)),.inr (.inl ⟨rfl,zD,zD⟩),.inl ⟨zD,rfl,rfl⟩,.inr ⟨by unfold dQ;decide,rfl⟩⟩ (dd (may_nm.2 lp) (may_nm.2 iu))
theorem sh:MayI iAs:=.mk _ ⟨zD,zD,.inr ⟨zD,rfl⟩,.inr ⟨zD,rfl⟩,rfl,(λ_=>.inl rfl),.inr (.inr rfl),.inr (.inr rfl),.inr rfl,.inr ⟨rfl,rfl⟩⟩ (dd (may_nm.2 ik) tT) (λb a=>by cases a) (λb a=>by cases a) (λb a=>by cases a) (λb a=>by cases a) (λb a=>by cases a)
theorem so:dk mMm:=⟨lq,dE ⟨iu,fC 2⟩,dd ⟨lp,may_nm.2 iu⟩ ⟨ik,may_nm.2 iu⟩,dE sh⟩
theorem sk:MayI iIn:=.mk _ ⟨zD,zD,.inl ⟨(show(7:Int)≠4/\(7:Int)≠5/\(7:Int)≠6/\(7:Int)≠8 by decide),su⟩,.inl ⟨.inl rfl,lq⟩,rfl,(λc=>absurd c (show¬(7:Int)=4 by decide)),.inr (.inr rfl),.inr (.inr rfl),.inr rfl,.inl rfl⟩
 (λb a=>by cases a) (λb a=>by cases a) (λb a=>by cases a) (λb a=>by cases a) (λb a=>by cases a) (dd ⟨lp,fC 1⟩ ⟨ik,may_nm.2 ik⟩)
theorem sq:dk mTt:=⟨tZ,(λb a=>by cases a),dE ⟨ik,fC 2⟩,dE sk⟩
theorem uH:dC fEx=0:=by
 unfold dC;rw[if_neg zD,yes_iff.2 (show∀a,a∈fEx->dk a from dd so sq)];decide
theorem hu{z:Int}(h0:0<=z)(b:z<=2147483647):VX (xZ z):=.mk _ h0 (show z<18446744073709551616 by omega) (show(0:Nat)<4294967281 by decide) (λc a=>by cases a)
theorem sQ:VX xSum:=.mk _ zD zD zD (dd (fJ zD) (fJ zD))
theorem rA:VI iAs:=.mk _ zD zD (dd (fJ zD) sQ) (λb a=>by cases a) (λb a=>by cases a) (λb a=>by cases a) (λb a=>by cases a) (λb a=>by cases a)
theorem rB:VI iIn:=.mk _ zD zD (λb a=>by cases a) (λb a=>by cases a) (λb a=>by cases a) (λb a=>by cases a) (λb a=>by cases a) (dd ⟨zD,hu zD zD⟩ ⟨zD,fJ zD⟩)
theorem qg:∀a,a∈fEx->VM a:=dd ⟨zD,dE ⟨zD,hu zD zD⟩,dd ⟨zD,fJ zD⟩ ⟨zD,fJ zD⟩,dE rA⟩ ⟨zD,(λc b=>by cases b),dE ⟨zD,hu zD zD⟩,dE rB⟩
theorem dF{a b:ByteArray}(h:a.data≠b.data):¬a=b:=λe=>h (congrArg ByteArray.data e)
theorem lL:¬tA=tY:=dF zD
theorem jx:¬tY=tA:=dF zD
theorem kU:¬tM=tTt:=dF zD
theorem pD:bN mMm=[]:=by
 have a:bJ mMm.items=[]:=by show bJ [iAs]=[];simp[bJ,ofI,iAs]
 unfold bN;rw[a];rfl
theorem pE:bN mTt=[tM]:=by
 have a:bJ mTt.items=[tM]:=by show bJ [iIn]=[tM];simp[bJ,ofI,iIn]
 unfold bN;rw[a];exact hR zS
theorem vY:dN mMm:=by
 refine⟨?_,?_,?_⟩
 ·show cq [iAs];simp[cq,eS,iAs]
 ·show(al [iAs]++([tA,tY]++[tNn])).Nodup;rw[show al [iAs]=[] from by simp[al,tnI,iAs,dp]];simp[lL,show¬tA=tNn from dF zD,show¬tY=tNn from dF zD]
 ·show aP _ [iAs];simp[aP,inI,iAs,bi]
theorem vZ:dN mTt:=by
 refine⟨?_,?_,?_⟩
 ·show cq [iIn];simp[cq,eS,iIn]
 ·show(al [iIn]++([tY]++[])).Nodup;rw[show al [iIn]=[tU] from by simp[al,tnI,iIn,dp]];simp[show¬tU=tY from dF zD]
 ·show aP _ [iIn];simp[aP,inI,iIn,bi]
theorem ua:cN fEx []=some mMm:=by
 refine il (f:=fEx) (i:=0) zD (show dZ [] mMm from⟨zS,λs a=>by rw[pD] at a;cases a⟩) (λd b c=>by omega)
theorem ub:cN fEx [tM]=some mTt:=by
 refine il (f:=fEx) (i:=1) zD (show dZ [tM] mTt from⟨λa=>kU (y2m.1 a).symm,λs b=>by rw[pE] at b;exact b⟩) (λc d e=>?_);obtain rfl:c=0:=by omega
 exact λa=>a.1 (y2m.2 rfl)
theorem ug:ct fEx=[tM,tTt]:=by
 unfold ct;show dc fEx 2 []=_;unfold dc;rw[ua];show dc fEx 1 [tM]=_;unfold dc;rw[ub];rfl
theorem jf:da fEx=0:=by
 unfold da;rw[if_pos uH];have c:=lg (f:=fEx) ⟨by show [tM,tTt].Nodup;simp[kU],dd vY vZ⟩ (λd b s a=>by
  rcases List.mem_cons.1 b with rfl|b
  ·rw[pD] at a;cases a
  ·rw[List.mem_singleton.1 b,pE] at a;rw[List.mem_singleton.1 a];show tM∈[tM,tTt];simp)
 rw[c,ug];rfl
theorem ke:bU fEx tM=some mMm:=kd (f:=fEx) (i:=0) zD rfl (λc a b=>by omega)
theorem tu:bU fEx tTt=some mTt:=kd (f:=fEx) (i:=1) zD rfl (λa b c=>by
 obtain rfl:a=0:=by omega
 exact kU)
theorem tv:bU fEx tXx=none:=oQ (by
 intro x a;rcases List.mem_cons.1 a with rfl|a
 ·exact dF zD
 ·rw[List.mem_singleton.1 a];exact dF zD)
theorem lc{z:Int}(h:bF z)(s:Sc):aG s (xZ z)=.ok z:=xe (x:=xZ z) rfl rfl h (fC z) s
theorem oe{z:Int}(h:bF z)(env:List (ByteArray×Int)):bu env (xZ z)=(z,0):=by
 unfold bu;rw[if_pos (show ek (xZ z)=0 from checkX_zero.2 ⟨by rw[eC];show(1:Nat)+0<=_;decide,by rw[ip];show(1:Nat)+0<=_;decide,fC z⟩)];show aL _ (.mk 1 ⟨#[]⟩ 0 0 z [])=_;rw[oO];unfold cA;rw[if_pos h]
theorem tp{env:List (ByteArray×Int)}{a:ByteArray}{v:Int}(b:bf a)(c:bF v)(h:bw env a=some v):bu env (xNm a)=(v,0):=by
 unfold bu;rw[if_pos (checkX_zero.2 ⟨by rw[eC];show(1:Nat)+0<=_;decide,by rw[ip];show(1:Nat)+0<=_;decide,may_nm.2 b⟩),eV];show ew _ 2 a 0 0 0 []=_;unfold ew;rw[if_neg zD,if_pos rfl,h];show cA v=_;unfold cA;rw[if_pos c]
theorem kk{s:Sc}{x:X}{v:Int}(h:bu s.env x=(v,0))(a:1<=v/\v<=64):bV s x=.ok v:=by
 unfold bV gR;rw[h,if_neg (by simp only;omega)];rfl
theorem dK{n:Int}{m:Mk}(h:m.count+n<=65536):aZ n m=.ok {m with count:=m.count+n}:=if_pos h
theorem hO{p:Prop} [Decidable p]{e:Int}(h:p):aR p e=.ok ():=if_pos h
theorem jq{a:ByteArray}{w c b:Int}{s:Sc}{m:Mk}(e:m.d.sigs.length<512)(h2:m.bits+w<=4096):cQ a w c b s m=.ok ({s with sigs:=av s.sigs a m.d.sigs.length},{m with bits:=m.bits+w,d:={m.d with sigs:=m.d.sigs++[⟨s.path++a,w,c,b⟩]}}):=if_pos ⟨e,h2⟩
theorem iK{a:Bool}{l:List DT}{m:Mk}(h:m.d.procs.length<1024):co a l m=.ok {m with d:={m.d with procs:=m.d.procs++[⟨a,l⟩]}}:=if_pos h
theorem pI{c:List Sg}{s:Sc}{b:ByteArray}{a:Int}(h:s.sigs b=some a)(d:1<=(bg c a).w):ci c s (xNm b)=.ok (a,(bg c a).w - 1,0):=by
 unfold ci dY;rw[show(xNm b).name=b from rfl,h];simp only[bind,Except.bind,pure,Except.pure];rw[if_pos (show(xNm b).op=2 from rfl),hO zO]
theorem jP{b:List Sg}{s:Sc}{c:ByteArray}{a:Int}(h:s.sigs c=some a)(e:1<=(bg b a).w)(d:dP false (bg b a).kind=true):df b s false (xNm c)=.ok (a,(bg b a).w - 1,0):=by
 unfold df;rw[hO (.inl rfl),pI h e];simp only[bind,Except.bind,pure,Except.pure];rw[hO d]
theorem qZ{c:List Sg}{s:Sc}{b:ByteArray}{a:Int}(d:bw s.env b=none)(h:s.sigs b=some a)(e:1<=(bg c a).w):aA c s (xNm b)=.ok (fq (a,(bg c a).w - 1,0),1):=by
 rw[eo];unfold dU;rw[if_neg (show¬(xNm b).op=1 from λh=>absurd h (show¬(2:Int)=1 by decide)),if_pos (show(xNm b).op=2 from rfl),show(xNm b).name=b from rfl,d];simp only;rw[pI h e];rfl
theorem nD{d:List Sg}{s:Sc}{a:ByteArray}{v:Int}(c:bw s.env a=some v):aA d s (xNm a)=.ok (bq 0 v,1):=by
 rw[eo];unfold dU;rw[if_neg (show¬(xNm a).op=1 from λb=>absurd b (show¬(2:Int)=1 by decide)),if_pos (show(xNm a).op=2 from rfl),show(xNm a).name=a from rfl,c]
theorem qr(a:List Sg)(s:Sc)(z:Int):aA a s (xZ z)=.ok (bq 0 z,1):=by
 rw[eo];unfold dU;rw[if_pos (show(xZ z).op=1 from rfl)];rfl
theorem tt{b:List Sg}{s:Sc}{a n:Int}(d:bw s.env tA=none)(h:s.sigs tA=some a)(e:1<=(bg b a).w)(c:bw s.env tNn=some n):aA b s xSum=.ok (.mk 5 0 0 0 0 0 14 [fq (a,(bg b a).w - 1,0),bq 0 n],3):=by
 rw[eo,show xSum.l=[xNm tA,xNm tNn] from rfl,List.map_cons,List.map_cons,List.map_nil,qZ d h e,nD c];unfold dU;rw[if_neg zD,if_neg zD,if_neg zD,if_neg zD,if_neg zD,if_neg zD];rfl
theorem oi(inst:Itm->Sc->Mk->Rs Mk)(s:Sc)(m:Mk){a b n:Int}(g:bw s.env tA=none)(c:bw s.env tNn=some n)(ha:s.sigs tA=some a)(e:s.sigs tY=some b)(i:1<=(bg m.d.sigs a).w)(j:1<=(bg m.d.sigs b).w)(f:dP false (bg m.d.sigs b).kind=true)
 (l:m.count+5<=65536) (h:m.d.procs.length<1024):∃k,aY inst [iAs] s m=.ok (s,{m with count:=m.count+5,d:={m.d with procs:=m.d.procs++[k]}}):=by
 refine⟨⟨false,[cv (b,(bg m.d.sigs b).w - 1,0) (.mk 5 0 0 0 0 0 14 [fq (a,(bg m.d.sigs a).w - 1,0),bq 0 n])]⟩,?_⟩;rw[aY,dK zO];simp only[bind,Except.bind,pure,Except.pure];unfold iAs;rw[aC,if_neg zD,if_neg zD,if_neg zD,if_pos rfl];simp only[bind,Except.bind,pure,Except.pure];unfold cJ;rw[dK (by simp only;omega)];simp only[bind,Except.bind,pure,Except.pure];rw[show xAt [xNm tY,xSum] 0=xNm tY from rfl,show xAt [xNm tY,xSum] 1=xSum from rfl,jP e j f];simp only;unfold aF;rw[tt g ha i c];simp only[bind,Except.bind,pure,Except.pure];rw[dK (by simp only;omega)];simp only;rw[iK (by exact h)];simp only;rw[aY];simp only[show m.count+1+1+3=m.count+5 by omega]
theorem nO{T:ByteArray->Option Int}{n:Int}(a:T tNn=some n\/T tNn=none/\n=2)(f:1<=n/\n<=64)(p:ByteArray)(b:Prt->Int)(m:Mk)(h:m.d.sigs.length+2<=512)(h2:m.bits+n+n<=4096):
 eF mMm T p b m=.ok (⟨[(tNn,n)],av (av (λ_=>none) tA m.d.sigs.length) tY (m.d.sigs.length+1),p⟩,{m with bits:=m.bits+n+n,d:={m.d with sigs:=m.d.sigs++[⟨p++tA,n,b ⟨tA,false,xNm tNn⟩,0⟩]++[⟨p++tY,n,b ⟨tY,true,xNm tNn⟩,0⟩]}}):=by
 unfold eF mMm;simp only;have g:de T [⟨tNn,xZ 2⟩] ⟨[],λ_=>none,p⟩=.ok ⟨[(tNn,n)],λ_=>none,p⟩:=by
  rw[de];rcases a with a|⟨a,rfl⟩
  ·simp only[a,bind,Except.bind];rw[de];rfl
  ·simp only[a];rw[lc zD];simp only[bind,Except.bind];rw[de];rfl
 rw[g];have c:∀e:ByteArray->Option Int,bV ⟨[(tNn,n)],e,p⟩ (xNm tNn)=.ok n:=λe=>kk (tp iu ⟨zO,zO⟩ (by show(if tNn=tNn then some n else none)=_;rw[if_pos rfl])) f
 simp only[bind,Except.bind];rw[cI];simp only[bind,Except.bind];rw[c];simp only;rw[jq zO zO];simp only;rw[cI];simp only[bind,Except.bind];rw[c];simp only;rw[jq (by simp only[List.length_append,List.length_cons,List.length_nil];omega) (by simp only;omega)];simp only;rw[cI];simp only[List.length_append,List.length_cons,List.length_nil];rfl
theorem aH{α c:Type}{a:Rs α}{x:α}{f:α->Rs c}{b:Rs c}(h:a=.ok x)(k:f x=b):(a>>=f)=b:=by rw[h];exact k
theorem oM{e:List (ByteArray×Int)}{T:ByteArray->Option Int}{n:Int}(ht:dz mMm e (λ_=>none)=.ok T)(g:T tNn=some n\/T tNn=none/\n=2)(d:1<=n/\n<=64):∃c,bv fEx tM e=(⟨[⟨tA,n,1,0⟩,⟨tY,n,2,0⟩],[c],[]⟩,0):=by
 obtain⟨c,h⟩:=oi (cz fEx fEx.length) ⟨[(tNn,n)],av (av (λ_=>none) tA 0) tY 1,⟨#[]⟩⟩ ⟨⟨[⟨tA,n,1,0⟩,⟨tY,n,2,0⟩],[],[]⟩,0,n+n⟩ (a:=0) (b:=1) (n:=n)
  (by show(if tNn=tA then some n else none)=none;rw[if_neg (dF zD)]) (by show(if tNn=tNn then some n else none)=_;rw[if_pos rfl])
  (by show(if tY=tA then some (1:Int) else if tA=tA then some 0 else none)=_;rw[if_neg jx,if_pos rfl]) (by show(if tY=tY then some (1:Int) else if tA=tY then some 0 else none)=_;rw[if_pos rfl])
  d.1 d.1 rfl (by show(0:Int)+5<=_;decide) (by show(0:Nat)<_;decide)
 refine⟨c,?_⟩;have f:cc fEx tM e=.ok ⟨[⟨tA,n,1,0⟩,⟨tY,n,2,0⟩],[c],[]⟩:=by
  unfold cc;rw[if_neg (by rw[jf];decide),ke];refine aH ht ?_;refine aH (x:=(⟨[(tNn,n)],av (av (λ_=>none) tA 0) tY 1,⟨#[]⟩⟩,⟨⟨[⟨tA,n,1,0⟩,⟨tY,n,2,0⟩],[],[]⟩,0,n+n⟩)) ((nO g d _ _ noMk zD (by show(0:Int)+n+n<=4096;omega)).trans ?_) ?_
  ·rw[iO,iO,show noMk.bits+n+n=n+n from by show(0:Int)+n+n=_;omega];rfl
  ·exact aH h rfl
 unfold bv;rw[f]
theorem uQ:∃a,bv fEx tM []=(⟨[⟨tA,2,1,0⟩,⟨tY,2,2,0⟩],[a],[]⟩,0):=oM (T:=λ_=>none) rfl (.inr ⟨rfl,rfl⟩) zD
theorem uR:∃b,bv fEx tM [(tNn,8)]=(⟨[⟨tA,8,1,0⟩,⟨tY,8,2,0⟩],[b],[]⟩,0):=by
 refine oM (T:=av (λ_=>none) tNn 8) ?_ (.inl (by unfold av;rw[if_pos rfl])) zD;rw[dz];unfold aR;rw[if_pos (show((λ_=>none:ByteArray->Option Int) tNn=none/\∃a,a∈mMm.params/\a.name=tNn) from⟨rfl,⟨tNn,xZ 2⟩,List.mem_singleton.2 rfl,rfl⟩)];simp only[bind,Except.bind];rw[if_pos zD];rfl
theorem uS:bv fEx tM [(tMm,1)]=(⟨[],[],[]⟩,82):=by
 have c:cc fEx tM [(tMm,1)]=.error 82:=by
  unfold cc;rw[if_neg (by rw[jf];decide),ke];simp only;rw[dz];unfold aR;rw[if_neg (show¬((λ_=>none:ByteArray->Option Int) tMm=none/\∃a,a∈mMm.params/\a.name=tMm) from λ⟨_,a,d,b⟩=>by
   rw[List.mem_singleton.1 d] at b;exact absurd (congrArg ByteArray.data b) zD)]
  rfl
 unfold bv;rw[c]
theorem tk:bv fEx tXx []=(⟨[],[],[]⟩,71):=by
 have a:cc fEx tXx []=.error 71:=by
  unfold cc;rw[if_neg (by rw[jf];decide),tv]
 unfold bv;rw[a]
def tUA:ByteArray:=⟨#[117,46,97]⟩
def tUY:ByteArray:=⟨#[117,46,121]⟩
def tUd:ByteArray:=⟨#[117,46]⟩
theorem sX:ce (λb=>∃a,a∈mMm.ports/\a.name=b) 81 (λx=>(.ok x:Rs X)) iIn.binds (λ_=>none)=.ok (av (av (λ_=>none) tA (xZ 1)) tY (xNm tY)):=by
 rw[show iIn.binds=[⟨tA,xZ 1⟩,⟨tY,xNm tY⟩] from rfl,ce];unfold aR;rw[if_pos (show((λ_=>none:ByteArray->Option X) tA=none/\∃a,a∈mMm.ports/\a.name=tA) from⟨rfl,⟨tA,false,xNm tNn⟩,List.mem_cons_self ..,rfl⟩)];simp only[bind,Except.bind];rw[ce];unfold aR;rw[if_pos (show(av (λ_=>none) tA (xZ 1) tY=none/\∃a,a∈mMm.ports/\a.name=tY) from⟨by unfold av;rw[if_neg lL],⟨tY,true,xNm tNn⟩,cf _ (y2m.2 rfl),rfl⟩)];rfl
theorem tj:∃p c q,bv fEx tTt []=(⟨[⟨tY,2,2,0⟩,⟨tUA,2,3,0⟩,⟨tUY,2,3,0⟩],[p,c,q],[]⟩,0):=by
 have d:(av (av (λ_=>none) tA (xZ 1)) tY (xNm tY)) tA=some (xZ 1):=by unfold av;rw[if_neg jx,if_pos rfl]
 have e:(av (av (λ_=>none) tA (xZ 1)) tY (xNm tY)) tY=some (xNm tY):=by unfold av;rw[if_pos rfl]
 obtain⟨f,l⟩:∃f,f=av (av (λ_=>none) tA (xZ 1)) tY (xNm tY):=⟨_,rfl⟩;have g:=sX;rw[<-l] at g d e
 obtain⟨c,o⟩:=oi (cz fEx 1) ⟨[(tNn,2)],av (av (λ_=>none) tA 1) tY 2,tUd⟩ ⟨⟨[⟨tY,2,2,0⟩,⟨tUA,2,3,0⟩,⟨tUY,2,3,0⟩],[⟨false,[.mk 1 1 1 0 [bq 0 1] []]⟩],[]⟩,3,6⟩ (a:=1) (b:=2) (n:=2)
  (by show(if tNn=tA then some (2:Int) else none)=none;rw[if_neg (dF zD)]) (by show(if tNn=tNn then some (2:Int) else none)=_;rw[if_pos rfl])
  (by show(if tY=tA then some (2:Int) else if tA=tA then some 1 else none)=_;rw[if_neg jx,if_pos rfl]) (by show(if tY=tY then some (2:Int) else if tA=tY then some 1 else none)=_;rw[if_pos rfl])
  zD zD rfl (by show(3:Int)+5<=_;decide) (by show(1:Nat)<_;decide)
 refine⟨⟨false,[.mk 1 1 1 0 [bq 0 1] []]⟩,c,⟨false,[cv (0,1,0) (.mk 2 0 0 2 1 0 0 [])]⟩,?_⟩;have hi:cz fEx 2 iIn ⟨[],av (λ_=>none) tY 0,⟨#[]⟩⟩ ⟨⟨[⟨tY,2,2,0⟩],[],[]⟩,1,2⟩=.ok ⟨⟨[⟨tY,2,2,0⟩,⟨tUA,2,3,0⟩,⟨tUY,2,3,0⟩],[⟨false,[.mk 1 1 1 0 [bq 0 1] []]⟩,c,⟨false,[cv (0,1,0) (.mk 2 0 0 2 1 0 0 [])]⟩],[]⟩,10,6⟩:=by
  rw[cz,show iIn.of=tM from rfl,ke,Option.getD_some,show iIn.params=[] from rfl];refine aH (x:=λ_=>none) (by rw[ce]) ?_;refine aH g ?_;refine aH (x:=()) ?_ ?_
  ·rw[show mMm.ports=[⟨tA,false,xNm tNn⟩,⟨tY,true,xNm tNn⟩] from rfl,dx];refine aH (hO (.inl (by simp only[d];rfl))) ?_;rw[dx];refine aH (hO (.inl (by simp only[e];rfl))) ?_;rw[dx]
  have m:(⟨#[]⟩:ByteArray)++iIn.name++tDot=tUd:=by rw[iO];decide
  refine aH (x:=(⟨[(tNn,2)],av (av (λ_=>none) tA 1) tY 2,tUd⟩,⟨⟨[⟨tY,2,2,0⟩,⟨tUA,2,3,0⟩,⟨tUY,2,3,0⟩],[],[]⟩,1,6⟩)) ((nO (n:=2) (.inr ⟨rfl,rfl⟩) zD _ _ _ (by show(1:Nat)+2<=512;decide) (by show(2:Int)+2+2<=4096;decide)).trans ?_) ?_
  ·rw[m,show tUd++tA=tUA from by decide,show tUd++tY=tUY from by decide];rfl
  have i:(av (av (λ_=>none) tA (1:Int)) tY 2) tA=some 1:=by unfold av;rw[if_neg jx,if_pos rfl]
  have j:(av (av (λ_=>none) tA (1:Int)) tY 2) tY=some 2:=by unfold av;rw[if_pos rfl]
  refine aH (x:=⟨⟨[⟨tY,2,2,0⟩,⟨tUA,2,3,0⟩,⟨tUY,2,3,0⟩],[⟨false,[.mk 1 1 1 0 [bq 0 1] []]⟩],[]⟩,3,6⟩) ?_ ?_
  ·rw[show mMm.ports=[⟨tA,false,xNm tNn⟩,⟨tY,true,xNm tNn⟩] from rfl,cw,if_neg zD];refine aH (x:=⟨⟨[⟨tY,2,2,0⟩,⟨tUA,2,3,0⟩,⟨tUY,2,3,0⟩],[],[]⟩,2,6⟩) (dK zD) ?_;refine aH (x:=(bq 0 1,⟨⟨[⟨tY,2,2,0⟩,⟨tUA,2,3,0⟩,⟨tUY,2,3,0⟩],[],[]⟩,3,6⟩)) ?_ ?_
   ·rw[d];exact aH (qr _ _ 1) (aH (dK zD) rfl)
   ·simp only;rw[i];refine aH (x:=⟨⟨[⟨tY,2,2,0⟩,⟨tUA,2,3,0⟩,⟨tUY,2,3,0⟩],[⟨false,[.mk 1 1 1 0 [bq 0 1] []]⟩],[]⟩,3,6⟩) (iK zD) ?_;rw[cw,if_pos rfl,cw]
  refine aH (by rw[show mMm.items=[iAs] from rfl];exact o) ?_;rw[show mMm.ports=[⟨tA,false,xNm tNn⟩,⟨tY,true,xNm tNn⟩] from rfl,cj];simp only[d];rw[cj];simp only[e];refine aH (x:=⟨⟨[⟨tY,2,2,0⟩,⟨tUA,2,3,0⟩,⟨tUY,2,3,0⟩],[⟨false,[.mk 1 1 1 0 [bq 0 1] []]⟩,c],[]⟩,9,6⟩) (dK (show(8:Int)+1<=65536 by decide)) ?_;refine aH (x:=(0,1,0)) (jP (a:=0) (by show(if tY=tY then some (0:Int) else none)=_;rw[if_pos rfl]) (show(1:Int)<=2 by decide) (show dP false 2=true by decide)) ?_;refine aH (x:=⟨⟨[⟨tY,2,2,0⟩,⟨tUA,2,3,0⟩,⟨tUY,2,3,0⟩],[⟨false,[.mk 1 1 1 0 [bq 0 1] []]⟩,c],[]⟩,10,6⟩) (dK (show(9:Int)+1<=65536 by decide)) ?_;rw[j];refine aH (iK (show(2:Nat)<1024 by decide)) ?_;rw[cj];rfl
 have k:cc fEx tTt []=.ok ⟨[⟨tY,2,2,0⟩,⟨tUA,2,3,0⟩,⟨tUY,2,3,0⟩],[⟨false,[.mk 1 1 1 0 [bq 0 1] []]⟩,c,⟨false,[cv (0,1,0) (.mk 2 0 0 2 1 0 0 [])]⟩],[]⟩:=by
  unfold cc;rw[if_neg (by rw[jf];decide),tu];refine aH (x:=λ_=>none) rfl ?_;refine aH (x:=(⟨[],av (λ_=>none) tY 0,⟨#[]⟩⟩,⟨⟨[⟨tY,2,2,0⟩],[],[]⟩,0,2⟩)) ?_ ?_
  ·refine aH (x:=⟨[],λ_=>none,⟨#[]⟩⟩) rfl ?_;refine aH (kk (oe zD _) zD) ?_;refine aH (jq zD zD) ?_;show Except.ok _=_;rw[iO];rfl
  ·refine aH (x:=(⟨[],av (λ_=>none) tY 0,⟨#[]⟩⟩,⟨⟨[⟨tY,2,2,0⟩,⟨tUA,2,3,0⟩,⟨tUY,2,3,0⟩],[⟨false,[.mk 1 1 1 0 [bq 0 1] []]⟩,c,⟨false,[cv (0,1,0) (.mk 2 0 0 2 1 0 0 [])]⟩],[]⟩,10,6⟩)) ?_ rfl;rw[show mTt.items=[iIn] from rfl,aY];refine aH (x:=⟨⟨[⟨tY,2,2,0⟩],[],[]⟩,1,2⟩) (dK zD) ?_;refine aH (x:=(⟨[],av (λ_=>none) tY 0,⟨#[]⟩⟩,⟨⟨[⟨tY,2,2,0⟩,⟨tUA,2,3,0⟩,⟨tUY,2,3,0⟩],[⟨false,[.mk 1 1 1 0 [bq 0 1] []]⟩,c,⟨false,[cv (0,1,0) (.mk 2 0 0 2 1 0 0 [])]⟩],[]⟩,10,6⟩)) ?_ (by rw[aY]);have h:=hi;unfold iIn at h⊢;rw[aC,if_neg zD,if_neg zD,if_neg zD,if_neg zD,if_neg zD,if_neg zD,if_pos rfl];exact aH h rfl
 unfold bv;rw[k]
def FindG(l:List Sg)(s:ByteArray)(i:Int)(b:Bool):Prop:=b=true/\(∃a:Nat,∃e:a<l.length,i=a/\l[a].name=s/\∀c (f:c<l.length),c<a->¬l[c].name=s)\/b=false/\i=0/\∀d,d∈l->¬d.name=s
theorem FindG.one{l:List Sg}{s:ByteArray}{i j:Int}{b c:Bool}(h:FindG l s i b)(k:FindG l s j c):i=j/\b=c:=by
 rcases h with⟨rfl,n,g,rfl,a,o⟩|⟨rfl,rfl,a⟩<;>rcases k with⟨rfl,e,f,rfl,d,p⟩|⟨rfl,rfl,d⟩
 ·refine⟨?_,rfl⟩;by_cases h:n<e
  ·exact absurd a (p n g h)
  ·by_cases m:e<n
   ·exact absurd d (o e f m)
   ·omega
 ·exact absurd a (d _ (ao g))
 ·exact absurd d (a _ (ao f))
 ·exact⟨rfl,rfl⟩
def cr(k:Int):Nat->List Sg->List Int
 |_,[]=>[]
 |n,g::r=>if g.kind=k then(n:Int)::cr k (n+1) r else cr k (n+1) r
theorem nE(k:Int):∀(a:List Sg) (n:Nat) (b:List Sg),cr k n (a++b)=cr k n a++cr k (n+a.length) b
 |[],n,b=>rfl
 |c::a,n,b=>by
  have f:=nE k a (n+1) b;have e:n+(c::a).length=n+1+a.length:=by simp only[List.length_cons];omega
  rw[e];show(if c.kind=k then(n:Int)::cr k (n+1) (a++b) else cr k (n+1) (a++b))=(if c.kind=k then(n:Int)::cr k (n+1) a else cr k (n+1) a)++_;by_cases d:c.kind=k
  ·rw[if_pos d,if_pos d,f];rfl
  ·rw[if_neg d,if_neg d,f]
theorem yg{k:Int}{l:List Sg}{i:Nat}(h:i<l.length):cr k 0 (l.take (i+1))=if l[i].kind=k then cr k 0 (l.take i)++[(i:Int)] else cr k 0 (l.take i):=by
 rw[List.take_succ_eq_append_getElem h,nE,List.length_take,Nat.min_eq_left (Nat.le_of_lt h),Nat.zero_add];show _++(if l[i].kind=k then [(i:Int)] else [])=_;by_cases a:l[i].kind=k
 ·rw[if_pos a,if_pos a]
 ·rw[if_neg a,if_neg a,List.append_nil]
theorem mB(k:Int):∀(l:List Sg) (n:Nat),(cr k n l).length<=l.length
 |[],_=>ac _
 |g::r,n=>by
  have:=mB k r (n+1);show(if g.kind=k then(n:Int)::cr k (n+1) r else cr k (n+1) r).length<=_;split<;>simp only[List.length_cons]<;>omega
end Go.Proofs.YtlfmlodanoolhaaGreatDoor
namespace Go.Proofs.YtlfmlodanoolhaaGreatDoor
open Go Go.RowKit Go.Proofs.Tryz
attribute [local go_sem] bc
abbrev sgC(x:Sg):List Value:=[.string x.name,.int .i64 x.w,.int .i64 x.kind,.int .u64 x.init]
theorem Sl.extG{w a:World}{B:Nat}{l:List Sg}{v:Value}(h:Sl RSg w B 4 l v)(b:Ext w a)(c:B<=w.heap.size):Sl RSg a B 4 l v:=
 h.keep (λe d=>b.cell zO) (ac _) (λ_ _ _ h=>h)
theorem gl{w:World}{B:Nat}{l:List Sg}{v:Value}(h:Sl RSg w B 4 l v):∃c d,v=.slice c l.length d/\∀a (e:a<l.length),∃b o,c=some ⟨b,o,none⟩/\b<B/\Cells w b (o+a*4) (sgC l[a]):=by
 obtain⟨c,d,rfl,-,k⟩:=h;refine⟨c,d,rfl,λa e=>?_⟩;obtain⟨b,o,f,ha,j,-,g,-,i⟩:=k a e;exact⟨b,o,ha,j,by rw[<-(show f=sgC l[a] from i)];exact g⟩
theorem xk(s:Nat)(I:Enters Tryz.prog s)(P:Sg->Prop)(F:Value)(B:Nat)(l:List Sg)(w:World)
 (J:∀x,x∈l->∀(i:World),Ext w i->Calls Tryz.prog s #[.agg #[.string x.name,.int .i64 x.w,.int .i64 x.kind,.int .u64 x.init],F] i λe V=>e=.returned (.bool (yes (P x)))/\Ext i V)
 (v:Value) (H:Sl RSg w B 4 l v) (a0:B<=w.heap.size) (a5:l.length<=1000000000):
 Calls Tryz.prog 51 #[v,.func (.func s) #[] #[F]] w λe i=>Ext w i/\
  ((∃c,∃u:c<l.length,P l[c]/\(∀a,∀d:a<l.length,a<c->¬P l[a])/\e=.returned (.int .i64 c))\/((∀x,x∈l->¬P x)/\e=.returned (.int .i64 (-1)))):=by
 obtain⟨X,Z,rfl,L⟩:=gl H;have Q:=Hd L;have C:=Hd J;have a2:=I.o;clear J I L H
 go_in
 go_wp2_with fail
 go_loopw [8] (λc wr=>∃b:Nat,b<=l.length/\c=.int .i64 b/\(∀a,∀d:a<l.length,a<b->¬P l[a])/\Ext w wr) (λc _=>l.length - (intOf c).toNat)
 case atStart=>exact⟨0,aO _,rfl,λa d f=>absurd f zO,ah _⟩
 case round=>
  obtain⟨b,a3,rfl,K,h⟩:=hrel;have j:=Hd K;clear K;by_cases z:b<l.length
  ·have k:=Hd (C.o l[b] (ao z));obtain⟨Y,o,rfl,a1,G⟩:=Q.o b z;obtain⟨n,p,q,r⟩:=(G.ext h).get4;have E:=Hd h;have W:=Hd (show∀a,∀d:a<l.length,a<b+1->a≠b->¬P l[a] from λa d f a4=>j.o a d zO);have N:∃t:Sg,t=l[b]:=⟨_,rfl⟩;obtain⟨t,y⟩:=N;rw[<-y] at k n p q r;have D:=Hd y;clear G C h y;go_wp2_with fail
   refine(k.o _ E.o).mono ?_;rintro e a6 ⟨rfl,A⟩;have M:=Hd (E.o.trans A);by_cases g:P t
   ·rw[yes_iff.2 g];have m:=Hd (show∃c,∃u:c<l.length,P l[c]/\(∀a,∀d:a<l.length,a<c->¬P l[a])/\(b:Int)=c from⟨b,z,by rw[<-D.o];exact g,j.o,rfl⟩);clear g A k n p q r;go_wp2_with fail
    go_ret;obtain⟨c,u,R,S,T⟩:=m.o;exact⟨M.o,.inl ⟨c,u,R,S,by rw[T];rfl⟩⟩
   ·rw[yes_no.2 g];have O:=Hd (show∀a,∀d:a<l.length,a<b+1->¬P l[a] from λa d f=>if e:a=b then by subst e;rw[<-D.o];exact g else j.o a d zO);clear g A k n p q r;go_wp2_with fail
    go_roundw;case rel=>exact⟨b+1,zO,zN,O.o,M.o⟩
    case measure=>simp[intOf];omega
  ·have U:b=l.length:=by omega
   subst U;have m:=Hd (show∀x,x∈l->¬P x from λx h=>by obtain⟨a,f,rfl⟩:=List.getElem_of_mem h;exact j.o a f f);go_wp2_with fail
   go_ret;exact⟨h,.inr ⟨m.o,rfl⟩⟩
theorem yF:Enters Tryz.prog 52:=⟨λ_ _=>by kernel_rfl⟩
theorem qD(x:Sg)(s:ByteArray)(p:Addr)(w:World)(g:w.cell? p=some (.string s))(f:p.block<w.heap.size):
 Calls Tryz.prog 52 #[.agg #[.string x.name,.int .i64 x.w,.int .i64 x.kind,.int .u64 x.init],.pointer (some p)] w λe q=>e=.returned (.bool (yes (x.name=s)))/\Ext w q:=by
 obtain⟨r,b,l,c,m,h,i,j,k⟩:=eg w (.string x.name) (.int .i64 x.w) (.int .i64 x.kind) (.int .u64 x.init) 57;have u:b.w.cell? p=some (.string s):=((c.trans b.ext).cell f).trans g;have d:=Hd (c.trans b.ext);clear c m g f;obtain⟨n,z,y,v⟩:=x;simp only at l h i j k⊢;by_cases a:n=s
 ·rw[yes_iff.2 a];subst a
  go_in
  go_wp2
  go_ret;exact⟨rfl,d.o⟩
 ·rw[yes_no.2 a];have t:=io a;clear a
  go_in
  go_wp2
  go_ret;exact⟨rfl,d.o⟩
theorem uO(B:Nat)(l:List Sg)(s:ByteArray)(w:World)(I p n:Value)(k:Sl RSg w B 4 l I)(op:p.oneCell'=true)(W:n.oneCell'=true)(A:B<=w.heap.size)(O:l.length<=1000000000):
 Calls Tryz.prog 22 #[.agg #[I,p,n],.string s] w λe h=>∃a u,e=.returned (.tuple #[.int .i64 a,.bool u])/\FindG l s a u/\Ext w h:=by
 have q:=Hd k;obtain⟨r,y,rfl,-⟩:=gl k;obtain⟨Q,b,R,E,-,t,L,M⟩:=pX w (.slice r l.length y) p n 50;obtain⟨K,g,S,F,G,v⟩:=ju b.w (.string s) 9;have m:=b.ext.trans F;have H:=E.trans m;have t:=ak t m;have f:=Hd (H.trans g.ext);have C:b.w.heap.size<K.heap.size:=by rw[G];omega
 have U:=@hmf_ Tryz.prog
 have j:=Hd (xk 52 yF (λP=>P.name=s) (.pointer (some ⟨b.w.heap.size,0,none⟩)) B l g.w
  (λx d h D=>qD x s ⟨b.w.heap.size,0,none⟩ h (v ⟨h,g.ext.trans D⟩) (aI C (g.ext.trans D).size))
  (.slice r l.length y) (q.o.extG f.o A) (ad A f.o.size) O)
 clear k E F G m H C q v L M
 go_in
 go_wp2_with fail
 go_at_call 51;refine j.o.mono ?_;rintro _ J ⟨d,(⟨a,N,c,z,rfl⟩|⟨c,rfl⟩)⟩
 ·have T:decide ((0:Int)<=(a:Int))=true:=decide_eq_true zO;have V:max (a:Int) 0=(a:Int):=by omega
  have i:=Hd (show FindG l s a true/\Ext w J from⟨.inl ⟨rfl,a,N,rfl,c,z⟩,f.o.trans d⟩);clear c z d j;go_wp2_with fail
  go_ret2;exact⟨_,_,rfl,i.o⟩
 ·have i:=Hd (show FindG l s 0 false/\Ext w J from⟨.inr ⟨rfl,rfl,c⟩,f.o.trans d⟩);clear c d j;go_wp2_with fail
  go_ret2;exact⟨_,_,rfl,i.o⟩
def RZ(z:Int)(a:List Value):Prop:=a=[.int .i64 z]
theorem rX:(Tryz.prog.info? 3).map (λi=>(i.zero,i.size,i.bytes))=some (some (.int .i64 0),1,8):=by kernel_rfl
theorem Blk.flat_one{w:World}{g:Nat}{t:TypeId}{v:Value}(h:Blk w g t [v])(a:v.oneCell'=true):Flat w 1 (some ⟨g,0,none⟩) 1 [v]:=
 ⟨rfl,(by intro c b;rw[List.mem_singleton.1 b];exact a),λ_=>⟨_,_,rfl,h.cells⟩⟩
theorem wW(B:Nat)(l:List Sg)(b:Int)(w:World)(a1 r q:Value)(N:Sl RSg w B 4 l a1)(op:r.oneCell'=true)(e1:q.oneCell'=true)(d2:B<=w.heap.size)(e0:l.length<=1000000000):
 Calls Tryz.prog 24 #[.agg #[a1,r,q],.int .i64 b] w λe C=>∃v,e=.returned v/\Sl RZ C C.heap.size 1 (cr b 0 l) v/\Ext w C:=by
 obtain⟨G,H,rfl,X⟩:=gl N;have a8:=Hd X;obtain⟨b2,O,Z,n⟩:=fk w (.slice G l.length H) r q 50;have d3:=O.symm;have e3:w.heap.size<b2.heap.size:=n.lt;have b1:=Hd Z;have a5:=Hd n;have t:=n.cell 0;simp only[List.getElem?_cons_zero] at t;clear N X O Z n
 go_in
 go_wp2_with fail
 go_loopw [4,10] (λc6 A wr=>∃a:Nat,∃o,a<=l.length/\A=.int .i64 a/\o=c6/\OwnL RZ (w.heap.size+1) 3 1 (cr b 0 (l.take a)) o wr/\Ext w wr/\Blk wr w.heap.size 50 [.slice G l.length H,r,q]) (λ_ A _=>l.length - (intOf A).toNat)
 case atStart=>exact⟨0,_,aO _,rfl,rfl,OwnL.none_,b1.o,a5.o⟩
 case round=>
  obtain⟨a,o,d7,rfl,rfl,V,Y,c⟩:=hrel;have t:=c.cell 0;simp only[List.getElem?_cons_zero] at t;have i:=Hd V;have j:=Hd Y;have D:=Hd c;have c0:w.heap.size+1<=wr.heap.size:=c.lt;clear V c Y;by_cases U:a<l.length
  ·obtain⟨m,e2,rfl,d6,M⟩:=a8.o a U;obtain⟨I,J,K,L⟩:=(M.ext j.o).get4;have z:=yg (k:=b) U;have b6:(cr b 0 (l.take a)).length<=1000000000:=by
    have:=mB b (l.take a) 0;rw[List.length_take] at this;omega
   obtain⟨u,T⟩:∃u:Sg,u=l[a]:=⟨_,rfl⟩;rw[<-T] at I J K L z;have g:=Hd z;clear M T z;obtain⟨c3,c7,p,c2⟩:=u;simp only at I J K L g;obtain⟨E,P,a0,R⟩:=bH wr (.string c3) (.int .i64 c7) (.int .i64 p) (.int .u64 c2) 57;have d4:=P.symm;obtain⟨c8,c9,d0,d1⟩:=R.get4;have d:=Hd a0;clear P a0 R;obtain⟨c4,c5,b8⟩:=i.o.form;generalize b7:cr b 0 (l.take a)=lk at*;clear b7;subst b8;by_cases f:p=b
   ·have s:=Hd (g.o.trans (if_pos f));have d9:(p==b)=true:=beq_iff_eq.2 f;clear g;subst f;obtain⟨F,Q,h,S⟩:=aJ E (.int .i64 a) 3;have d5:=Q.symm;have a9:=Hd (i.o.later (d.o.trans h));have b3:=Hd (j.o.trans (d.o.trans h));have a2:=Hd (D.o.ext (d.o.trans h));have a6:=Hd (show Flat F 1 (some ⟨E.heap.size,0,none⟩) 1 [.int .i64 a] from S.flat_one rfl);have a7:=Hd (show Fl RZ 1 [(a:Int)] [.int .i64 a] from Fl.one_ rfl (by intro e4 c1;rw[List.mem_singleton.1 c1];rfl) rfl);have b9:w.heap.size+1<=F.heap.size:=ad c0 (d.o.trans h).size;clear Q h S;go_wp2_with (at_builtin;refine jX rfl _ _ 77 rfl (w.heap.size+1) 3 _ 1 8 rX underlying77 rfl zD zD lk [(a:Int)] (.slice c4 lk.length c5) rfl a9.o _ 1 _ rfl a6.o a7.o b6 zS b9 ?_;intro e5 e6 W x y;have b4:=Hd (b3.o.grown x (λm c=>by have:=y m c;omega));have b0:=Hd W;have a3:=Hd (wQ a2.o x (λm c=>by have:=y m c;omega));clear W x y)
    go_roundw;case rel=>exact⟨a+1,_,zO,zN,rfl,by rw[s.o];exact b0.o,b4.o,a3.o⟩
    case measure=>simp[intOf];omega
   ·have s:=Hd (g.o.trans (if_neg f));have d8:(p==b)=false:=beq_eq_false_iff_ne.2 f;clear g f;go_wp2_with fail
    go_roundw;case rel=>exact⟨a+1,_,zO,zN,rfl,by rw[s.o];exact i.o.later d.o,j.o.trans d.o,D.o.ext d.o⟩
    case measure=>simp[intOf];omega
  ·have b5:a=l.length:=by omega
   subst b5;have a4:=Hd (show Sl RZ wr wr.heap.size 1 (cr b 0 l) o from by have:=i.o.sl zD;rwa[List.take_length] at this);go_wp2_with fail
   go_ret;exact⟨_,rfl,a4.o,j.o⟩
theorem SlT.open_{α:Type}{T:TypeId}{R:α->List Value->Prop}{w:World}{f:Nat}{l:List α}{v:Value}(h:SlT T R w f l v):∃b d,v=.slice b l.length d/\∀k (e:k<l.length),∃c o a,b=some ⟨c,o,none⟩/\Cells w c (o+k*f) a/\(∀v,v∈a->v.oneCell'=true)/\R l[k] a:=by
 obtain⟨b,d,rfl,-,m⟩:=h;refine⟨b,d,rfl,λk e=>?_⟩;obtain⟨c,o,a,ha,-,-,i,g,j⟩:=m k e;exact⟨c,o,a,ha,i,g,j⟩
structure DsnR(w:World)(d:Dsn)(vs vp vc:Value):Prop where
 sig:Sl RSg w w.heap.size 4 d.sigs vs
 prc:SlT 70 (RPc w) w 2 d.procs vp
 chk:SlT 62 (RCk w) w 9 d.chks vc
theorem SlT.ext{α:Type}{T:TypeId}{R g:α->List Value->Prop}{w e:World}{d:Nat}{l:List α}{v:Value}(h:SlT T R w d l v)(C:Ext w e)(t:∀f,f∈l->∀c,R f c->g f c):SlT T g e d l v:=by
 obtain⟨p,q,B,x,z⟩:=h;refine⟨p,q,B,x,λn j=>?_⟩;obtain⟨b,o,c,ha,k,y,s,r,u⟩:=z n j;have i:e.heap[b]? =w.heap[b]? :=C.heap k.lt;exact⟨b,o,c,ha,k.of_eq i,y,λm D A=>(ef (a:=⟨b,o+n*d+m,none⟩) i).trans (s m D A),r,t _ (ao j) _ u⟩
theorem DsnR.ext{w g:World}{d:Dsn}{f e c:Value}(h:DsnR w d f e c)(a:Ext w g):DsnR g d f e c:=
 ⟨h.sig.keep (λj i=>a.cell zO) a.size (λ_ _ _ h=>h),h.prc.ext a (λb _=>RPc.keep a.kp b),h.chk.ext a (λb _=>RCk.keep a.kp b)⟩
abbrev cNm(s:ByteArray):List Value:=[.int .i64 2,.string s,.int .i64 0,.int .i64 0,.int .u64 0,.slice none 0 0]
abbrev cZ(z:Int):List Value:=[.int .i64 1,.string ⟨#[]⟩,.int .i64 0,.int .i64 0,.int .u64 z,.slice none 0 0]
theorem fD(s:ByteArray)(w:World):
 Calls Tryz.prog 20 #[.string s] w λe a=>e=.returned (.agg #[.int .i64 2,.string s,.int .i64 0,.int .i64 0,.int .u64 0,.slice none 0 0])/\Ext w a:=by
 go_in
 go_wp2
 refine bodyPost_ret (v:=.agg #[.int .i64 2,.string s,.int .i64 0,.int .i64 0,.int .u64 0,.slice none 0 0]) ?_ rfl ⟨rfl,ax _ _⟩;simp[results,results20,go_sem]
theorem gu(z:Int)(h0:0<=z)(c:z<=2147483647)(w:World):
 Calls Tryz.prog 14 #[.int .i64 z] w λe b=>e=.returned (.agg #[.int .i64 1,.string ⟨#[]⟩,.int .i64 0,.int .i64 0,.int .u64 z,.slice none 0 0])/\Ext w b:=by
 have a:IntKind.u64.wrap z=z:=by simp(disch:=omega) only[IntWalk.u64_in]
 go_in
 go_wp2
 refine bodyPost_ret (v:=.agg #[.int .i64 1,.string ⟨#[]⟩,.int .i64 0,.int .i64 0,.int .u64 z,.slice none 0 0]) ?_ rfl ⟨rfl,ax _ _⟩;simp[results,results14,go_sem,a]
theorem Sl.twin{α:Type}{R:α->List Value->Prop}{w:World}{B e g:Nat}{x k:α}{a ds:List Value}(f:g<B)(i:a.length=e)(m:ds.length=e)(h:Cells w g 0 (a++ds))(j:∀v,v∈a++ds->v.oneCell'=true)(n:R x a)(o:R k ds):
 Sl R w B e [x,k] (.slice (some ⟨g,0,none⟩) 2 2):=by
 refine⟨_,2,rfl,ac _,λp l=>?_⟩;match p,l with
 |0,_=>exact⟨g,0,a,rfl,f,i,λd v b=>by
   have:=h d v (by rw[List.getElem?_append_left (List.getElem?_eq_some_iff.1 b).1];exact b);simpa using this,λv c=>j v (List.mem_append_left _ c),n⟩
 |1,_=>exact⟨g,0,ds,rfl,f,m,λd v b=>by
   have:=h (a.length+d) v (by rw[List.getElem?_append_right zO,Nat.add_sub_cancel_left];exact b);rw[i] at this;simpa using this,λv c=>j v (List.mem_append_right _ c),o⟩
theorem Blk.ty{w:World}{g:Nat}{t a:TypeId}{b ds:List Value}(h:Blk w g t b)(k:Blk w g a ds):t=a:=h.tag.one k.tag
abbrev cBn:List Value:=[.string tNn,.int .i64 1,.string ⟨#[]⟩,.int .i64 0,.int .i64 0,.int .u64 2,.slice none 0 0]
abbrev cPt(s:ByteArray)(b:Bool):List Value:=[.string s,.bool b,.int .i64 2,.string tNn,.int .i64 0,.int .i64 0,.int .u64 0,.slice none 0 0]
abbrev ge(u:Value):List Value:=[.int .i64 6,.string ⟨#[]⟩,.int .i64 14,.int .i64 0,.int .u64 0,u]
abbrev cIa(u:Value):List Value:=[.int .i64 4,.string ⟨#[]⟩,.string ⟨#[]⟩,u,.slice none 0 0,.slice none 0 0,.slice none 0 0,.slice none 0 0,.slice none 0 0]
def exB(w:World)(u:Value)(a b h g:Nat):Prop:=Blk w a 45 cBn/\Blk w b 42 (cPt tA false++cPt tY true)/\Blk w h 37 (cIa (.slice (some ⟨g,0,none⟩) 2 2))/\Blk w g 40 (cNm tY++ge u)
def exF(W:World)(u:Value)(i:Nat)(v:Value)(w:World):Prop:=
 if i=2 then∃a,v=.slice (some ⟨a,0,none⟩) 1 1/\Blk w a 45 cBn
 else if i=7 then∃a,v=.slice (some ⟨a,0,none⟩) 2 2/\Blk w a 42 (cPt tA false++cPt tY true)
 else if i=10 then∃a,v=.slice (some ⟨a,0,none⟩) 2 2/\Blk w a 40 (cNm tY++ge u)
 else if i=11 then∃a,v=.agg #[.int .i64 4,.string ⟨#[]⟩,.string ⟨#[]⟩,.slice (some ⟨a,0,none⟩) 2 2,.slice none 0 0,.slice none 0 0,.slice none 0 0,.slice none 0 0,.slice none 0 0]/\Blk w a 40 (cNm tY++ge u)
 else if i=12 then∃b a,v=.slice (some ⟨b,0,none⟩) 1 1/\Blk w b 37 (cIa (.slice (some ⟨a,0,none⟩) 2 2))/\Blk w a 40 (cNm tY++ge u)
 else if i=13 then∃c d b a,v=.agg #[.string tM,.slice (some ⟨c,0,none⟩) 1 1,.slice (some ⟨d,0,none⟩) 2 2,.slice (some ⟨b,0,none⟩) 1 1]/\exB w u c d b a
 else if i=14 then∃a,v=.pointer (some ⟨a,0,none⟩)/\W.heap.size<=a/\Blk w a 30 [.string ⟨#[]⟩,.slice none 0 0,.slice none 0 0,.slice none 0 0]
 else v=[.agg #[.int .i64 1,.string ⟨#[]⟩,.int .i64 0,.int .i64 0,.int .u64 2,.slice none 0 0],.agg #[.string tNn,.int .i64 1,.string ⟨#[]⟩,.int .i64 0,.int .i64 0,.int .u64 2,.slice none 0 0],undef,.agg #[.int .i64 2,.string tNn,.int .i64 0,.int .i64 0,.int .u64 0,.slice none 0 0],.agg #[.string tA,.bool false,.int .i64 2,.string tNn,.int .i64 0,.int .i64 0,.int .u64 0,.slice none 0 0],.agg #[.int .i64 2,.string tNn,.int .i64 0,.int .i64 0,.int .u64 0,.slice none 0 0],.agg #[.string tY,.bool true,.int .i64 2,.string tNn,.int .i64 0,.int .i64 0,.int .u64 0,.slice none 0 0],undef,.agg #[.int .i64 2,.string tY,.int .i64 0,.int .i64 0,.int .u64 0,.slice none 0 0],.agg #[.int .i64 6,.string ⟨#[]⟩,.int .i64 14,.int .i64 0,.int .u64 0,u]].getD i undef
theorem rK{W:World}{u:Value}{i:Nat}{v:Value}{w j:World}(h:exF W u i v w)(d:Ext w j):exF W u i v j:=by
 unfold exF at h⊢;by_cases a:i=2
 ·rw[if_pos a] at h⊢;obtain⟨b,e,c⟩:=h;exact⟨b,e,c.ext d⟩
 rw[if_neg a] at h⊢;by_cases a:i=7
 ·rw[if_pos a] at h⊢;obtain⟨b,e,c⟩:=h;exact⟨b,e,c.ext d⟩
 rw[if_neg a] at h⊢;by_cases a:i=10
 ·rw[if_pos a] at h⊢;obtain⟨b,e,c⟩:=h;exact⟨b,e,c.ext d⟩
 rw[if_neg a] at h⊢;by_cases a:i=11
 ·rw[if_pos a] at h⊢;obtain⟨b,e,c⟩:=h;exact⟨b,e,c.ext d⟩
 rw[if_neg a] at h⊢;by_cases a:i=12
 ·rw[if_pos a] at h⊢;obtain⟨g,b,e,c,f⟩:=h;exact⟨g,b,e,c.ext d,f.ext d⟩
 rw[if_neg a] at h⊢;by_cases a:i=13
 ·rw[if_pos a] at h⊢;obtain⟨k,l,g,b,e,c,f,m,n⟩:=h;exact⟨k,l,g,b,e,c.ext d,f.ext d,m.ext d,n.ext d⟩
 rw[if_neg a] at h⊢;by_cases a:i=14
 ·rw[if_pos a] at h⊢;obtain⟨b,e,c,f⟩:=h;exact⟨b,e,c,f.ext d⟩
 rw[if_neg a] at h⊢;exact h
theorem nU{w:World}{B g1 gs a b h g:Nat}(k:Blk w gs 40 (cNm tA++cNm tNn))(l:exB w (.slice (some ⟨gs,0,none⟩) 2 2) a b h g)(c:w.heap.size<=B):RM w B mMm [.string tM,.slice (some ⟨a,0,none⟩) 1 1,.slice (some ⟨b,0,none⟩) 2 2,.slice (some ⟨h,0,none⟩) 1 1]:=by
 obtain⟨e,f,i,j⟩:=l;have d:∀s,RX w B (xNm s) (cNm s):=λs=>RX_iff.2 ⟨_,rfl,aU⟩
 have n:RX w B xSum (ge (.slice (some ⟨gs,0,none⟩) 2 2)):=RX_iff.2 ⟨_,rfl,Sl.twin (aI k.lt c) rfl rfl k.cells zV (d tA) (d tNn)⟩;have m:RI w B iAs (cIa (.slice (some ⟨g,0,none⟩) 2 2)):=RI_iff.2 ⟨_,_,_,_,_,_,rfl,Sl.twin (aI j.lt c) rfl rfl j.cells zV (d tY) n,aU,aU,aU,aU,aU⟩;refine⟨_,_,_,rfl,?_,?_,?_⟩
 ·exact Sl.one (aI e.lt c) rfl e.cells zV ⟨cZ 2,rfl,RX_iff.2 ⟨_,rfl,aU⟩⟩
 ·exact Sl.twin (aI f.lt c) rfl rfl f.cells zV ⟨cNm tNn,rfl,d tNn⟩ ⟨cNm tNn,rfl,d tNn⟩
 ·exact Sl.one (aI i.lt c) rfl i.cells zV m
abbrev cIi(u:Value):List Value:=[.int .i64 7,.string tU,.string tM,.slice none 0 0,.slice none 0 0,.slice none 0 0,.slice none 0 0,.slice none 0 0,u]
abbrev cBd(s:ByteArray)(c:List Value):List Value:=.string s::c
theorem nV{w:World}{B b p h:Nat}(e:Blk w p 42 (.string tY::.bool true::cZ 2))(c:Blk w b 45 (cBd tA (cZ 1)++cBd tY (cNm tY)))(d:Blk w h 37 (cIi (.slice (some ⟨b,0,none⟩) 2 2)))(a:w.heap.size<=B):RM w B mTt [.string tTt,.slice none 0 0,.slice (some ⟨p,0,none⟩) 1 1,.slice (some ⟨h,0,none⟩) 1 1]:=by
 have f:RI w B iIn (cIi (.slice (some ⟨b,0,none⟩) 2 2)):=RI_iff.2 ⟨_,_,_,_,_,_,rfl,aU,aU,aU,aU,aU,Sl.twin (aI c.lt a) rfl rfl c.cells zV ⟨cZ 1,rfl,RX_iff.2 ⟨_,rfl,aU⟩⟩ ⟨cNm tY,rfl,RX_iff.2 ⟨_,rfl,aU⟩⟩⟩;refine⟨_,_,_,rfl,aU,?_,?_⟩
 ·exact Sl.one (aI e.lt a) rfl e.cells zV ⟨cZ 2,rfl,RX_iff.2 ⟨_,rfl,aU⟩⟩
 ·exact Sl.one (aI d.lt a) rfl d.cells zV f
theorem qB(w:World):
 Calls Tryz.prog 29 #[] w λe J=>∃v,e=.returned (.agg #[v])/\Sl (RM J J.heap.size) J J.heap.size 4 fEx v/\Ext w J:=by
 obtain⟨l8,g2,h6,g6⟩:=aJ w (.slice none 0 0) 24;have j3:=g2.symm;have e9:=Hd g6;have i6:=Hd h6;clear g2 h6 g6
 go_in
 go_wp2_with fail
 go_at_call 20;refine(fD tA _).mono ?_;rintro _ n9 ⟨rfl,b7⟩;have i7:=Hd (i6.o.trans b7);have f0:=Hd (e9.o.ext b7);clear b7 j3 e9;go_wp2_with fail
 go_at_call 20;refine(fD tNn _).mono ?_;rintro _ q ⟨rfl,b8⟩;obtain⟨L,Z⟩:∃L,L=q.alloc (.cells #[.int .i64 2,.string tA,.int .i64 0,.int .i64 0,.int .u64 0,.slice none 0 0,.int .i64 2,.string tNn,.int .i64 0,.int .i64 0,.int .u64 0,.slice none 0 0] 40):=⟨_,rfl⟩;have j4:=Z.symm;have h1:Blk L q.heap.size 40 (cNm tA++cNm tNn):=by rw[Z];exact ar q _ (cNm tA++cNm tNn)
 have b9:Ext q L:=by rw[Z];exact ax _ _
 obtain⟨l9,i,j5,a4,k2,a7,a8,a9,b0,b1,b2⟩:=cp L (.int .i64 6) (.string ⟨#[]⟩) (.int .i64 14) (.int .i64 0) (.int .u64 0) (.slice (some ⟨q.heap.size,0,none⟩) 2 2) 40;have a7:=ak a7 i.ext;have a8:=ak a8 i.ext;have a9:=ak a9 i.ext;have b0:=ak b0 i.ext;have b1:=ak b1 i.ext;have b2:=ak b2 i.ext;have i8:=Hd (i7.o.trans (b8.trans (b9.trans (a4.trans i.ext))));have f3:=Hd (f0.o.ext (b8.trans (b9.trans (a4.trans i.ext))));have f5:=Hd (h1.ext (a4.trans i.ext));clear b8 Z h1 b9 a4 k2 f0;go_wp2_with fail
 refine bT 15 (W:=i.w) (Ext) (exF i.w (.slice (some ⟨q.heap.size,0,none⟩) 2 2)) (λ_ _=>False) (λ_=>true) zK (bG) zK zK ?_ (ah _) (λm9 v w J M g=>rK M g) ?_ (λh m0 w a k0=>k0.elim) ?_
 ·exact⟨rfl,rfl,rfl,rfl,rfl,rfl,rfl,rfl,rfl,rfl,rfl,rfl,rfl,rfl,rfl,trivial⟩
 ·refine⟨?_,?_,?_,?_,?_,?_,?_,?_,?_,?_,?_,?_,?_,?_,?_,trivial⟩
  ·intro h k b a c;obtain⟨d,rfl⟩:=ae b;clear a c;go_simp;refine(gu 2 zD zD d.w).mono ?_;rintro _ e6 ⟨rfl,g⟩;go_simp;first|exact⟨_,rfl,g,rfl⟩|exact⟨g,rfl⟩|exact⟨_,rfl,rfl⟩|exact g
  rotate_left 1
  ·intro h k b a c;obtain⟨d,rfl⟩:=ae b;have k5:=aa a 1 9 zK rfl;simp[exF] at k5;clear a c;go_simp;first|exact⟨_,rfl,ax _ _,_,rfl,ar _ _ cBn⟩|exact⟨ax _ _,_,rfl,ar _ _ cBn⟩
  ·intro h k b a c;obtain⟨d,rfl⟩:=ae b;clear a c;go_simp;refine(fD tNn d.w).mono ?_;rintro _ e6 ⟨rfl,g⟩;go_simp;first|exact⟨_,rfl,g,rfl⟩|exact⟨g,rfl⟩|exact⟨_,rfl,rfl⟩|exact g
  rotate_left 1
  ·intro h k b a c;obtain⟨d,rfl⟩:=ae b;clear a c;go_simp;refine(fD tNn d.w).mono ?_;rintro _ e6 ⟨rfl,g⟩;go_simp;first|exact⟨_,rfl,g,rfl⟩|exact⟨g,rfl⟩|exact⟨_,rfl,rfl⟩|exact g
  rotate_left 1
  ·intro h k b a c;obtain⟨d,rfl⟩:=ae b;have l1:=aa a 4 12 zK rfl;simp[exF] at l1;have l3:=aa a 6 14 zK rfl;simp[exF] at l3;clear a c;go_simp;first|exact⟨_,rfl,ax _ _,_,rfl,ar _ _ (cPt tA false++cPt tY true)⟩|exact⟨ax _ _,_,rfl,ar _ _ (cPt tA false++cPt tY true)⟩
  ·intro h k b a c;obtain⟨d,rfl⟩:=ae b;clear a c;go_simp;refine(fD tY d.w).mono ?_;rintro _ e6 ⟨rfl,g⟩;go_simp;first|exact⟨_,rfl,g,rfl⟩|exact⟨g,rfl⟩|exact⟨_,rfl,rfl⟩|exact g
  rotate_left 1
  ·intro h k b a c;obtain⟨d,rfl⟩:=ae b;have l5:=aa a 8 16 zK rfl;simp[exF] at l5;have l6:=aa a 9 17 zK rfl;simp[exF] at l6;clear a c;go_simp;first|exact⟨_,rfl,ax _ _,_,rfl,ar _ _ (cNm tY++ge (.slice (some ⟨q.heap.size,0,none⟩) 2 2))⟩|exact⟨ax _ _,_,rfl,ar _ _ (cNm tY++ge (.slice (some ⟨q.heap.size,0,none⟩) 2 2))⟩
  ·intro h k b a c;obtain⟨d,rfl⟩:=ae b;obtain⟨p,k6,g7⟩:=aa a 10 18 zK rfl;simp at k6;have X:=Hd g7;clear g7;clear a c;go_simp;first|exact⟨_,rfl,ah _,_,rfl,X.o⟩|exact⟨ah _,_,rfl,X.o⟩|exact⟨_,rfl,_,rfl,X.o⟩|exact⟨_,rfl,X.o⟩
  ·intro h k b a c;obtain⟨d,rfl⟩:=ae b;obtain⟨p,k7,g8⟩:=aa a 11 19 zK rfl;simp at k7;have f1:=Hd g8;clear g8;clear a c;go_simp;first|exact⟨_,rfl,ax _ _,_,_,rfl,ar _ _ (cIa (.slice (some ⟨p,0,none⟩) 2 2)),f1.o.ext (ax _ _)⟩|exact⟨ax _ _,_,_,rfl,ar _ _ (cIa (.slice (some ⟨p,0,none⟩) 2 2)),f1.o.ext (ax _ _)⟩
  ·intro h k b a c;obtain⟨d,rfl⟩:=ae b;obtain⟨m1,k9,h0⟩:=aa a 2 10 zK rfl;simp at k9;have Y:=Hd h0;clear h0;obtain⟨m2,l4,Q⟩:=aa a 7 15 zK rfl;simp at l4;have A:=Hd Q;clear Q;obtain⟨M,p,k8,g9⟩:=aa a 12 20 zK rfl;simp at k8;have y:=Hd g9;clear g9;clear a c;go_simp;first|exact⟨_,rfl,ah _,_,_,_,_,rfl,Y.o,A.o,y.o.1,y.o.2⟩|exact⟨ah _,_,_,_,_,rfl,Y.o,A.o,y.o.1,y.o.2⟩|exact⟨_,rfl,_,_,_,_,rfl,Y.o,A.o,y.o.1,y.o.2⟩|exact⟨_,_,_,_,rfl,Y.o,A.o,y.o.1,y.o.2⟩
  ·intro h k b a c;obtain⟨d,rfl⟩:=ae b;clear a c;go_simp;first|exact⟨_,rfl,ax _ _,_,rfl,d.ext.size,ar _ _ [.string ⟨#[]⟩,.slice none 0 0,.slice none 0 0,.slice none 0 0]⟩|exact⟨ax _ _,_,rfl,d.ext.size,ar _ _ [.string ⟨#[]⟩,.slice none 0 0,.slice none 0 0,.slice none 0 0]⟩
  all_goals
   intro h k b a c;obtain⟨d,rfl⟩:=ae b;try (have k4:=aa a 0 8 zD rfl;simp[exF] at k4)
   try (have l0:=aa a 3 11 zD rfl;simp[exF] at l0)
   try (have l2:=aa a 5 13 zD rfl;simp[exF] at l2)
   have l7:=ag c 1 zK;simp at l7;clear a c;exact zA
 ·intro h k j8;obtain⟨g0,rfl,b,b5,f⟩:=j8.fin (n:=37) rfl;obtain⟨d,rfl⟩:=ae b;have c4:=f 0 zK;have c5:=f 1 zK;have d4:=f 3 zK;have e2:=f 4 zK;have e3:=f 5 zK;have e4:=f 6 zK;have e5:=f 7 zK;have c6:=f 22 zK;have c7:=f 23 zK;have c8:=f 24 zK;have c9:=f 25 zK;have d0:=f 26 zK;have d1:=f 27 zK;have d2:=f 28 zK;have d3:=f 29 zK;have d5:=f 30 zK;have d6:=f 31 zK;have d7:=f 32 zK;have d8:=f 33 zK;have d9:=f 34 zK;have e0:=f 35 zK;have e1:=f 36 zK;obtain⟨D,i0,a3,P⟩:=(show∃p,g0 2=.pointer (some ⟨p,0,none⟩)/\i.w.heap.size<=p/\Blk d.w p 30 [.string ⟨#[]⟩,.slice none 0 0,.slice none 0 0,.slice none 0 0] from b5 14 2 rfl rfl);obtain⟨E,F,G,j2,i1,S⟩:=(show∃f8 f9 M p,g0 21=.agg #[.string tM,.slice (some ⟨f8,0,none⟩) 1 1,.slice (some ⟨f9,0,none⟩) 2 2,.slice (some ⟨M,0,none⟩) 1 1]/\exB d.w (.slice (some ⟨q.heap.size,0,none⟩) 2 2) f8 f9 M p from b5 13 21 rfl rfl);clear b5 f;simp at c4 c5 d4 e2 e3 e4 e5 c6 c7 c8 c9 d0 d1 d2 d3 d5 d6 d7 d8 d9 e0 e1;simp only[List.drop_succ_cons,List.drop_zero];simp[List.range,List.range.loop,c4,c5,d4,e2,e3,e4,e5,c6,c7,c8,c9,d0,d1,d2,d3,d5,d6,d7,d8,d9,e0,e1,i0,i1];clear c4 c5 d4 e2 e3 e4 e5 c6 c7 c8 c9 d0 d1 d2 d3 d5 d6 d7 d8 d9 e0 e1 i0 i1;obtain⟨o5,o6,o7,o8⟩:=P.get4;obtain⟨o1,o2,o3,o4⟩:=P.free4;have h9:=d.ext;obtain⟨C,N⟩:∃C,C=((((d.w.setCell ⟨D,0,none⟩ (.string tM)).setCell ⟨D,1,none⟩ (.slice (some ⟨E,0,none⟩) 1 1)).setCell ⟨D,2,none⟩ (.slice (some ⟨F,0,none⟩) 2 2)).setCell ⟨D,3,none⟩ (.slice (some ⟨G,0,none⟩) 1 1)):=⟨_,rfl⟩;have j6:=N.symm;have far:∀{x:TypeId} {B:List Value} {u:Nat},Blk d.w u x B->x≠30->Blk C u x B:=λ{x B u} O b6=>by
   have I:u≠D:=λe=>b6 (Blk.ty (e▸O) P)
   rw[N];exact(((O.far I _).far I _).far I _).far I _
  have h5:Blk C D 30 [.string tM,.slice (some ⟨E,0,none⟩) 1 1,.slice (some ⟨F,0,none⟩) 2 2,.slice (some ⟨G,0,none⟩) 1 1]:=by rw[N];exact P.store4 _ _ _ _
  have a5:Ext i.w C:=by rw[N];exact(((h9.setCell a3 _).setCell a3 _).setCell a3 _).setCell a3 _
  have z:=Hd (show exB C (.slice (some ⟨q.heap.size,0,none⟩) 2 2) E F G j2 from⟨far S.1 zD,far S.2.1 zD,far S.2.2.1 zD,far S.2.2.2 zD⟩);have i3:=Hd h5;have i9:=Hd (i8.o.trans a5);have f4:=Hd (f3.o.ext a5);have f6:=Hd (f5.o.ext a5);clear P S h9 N far h5 a5 j4 j5 a7 a8 a9 b0 b1 b2 f3 f5;go_wp2_with fail
  go_at_call 14;refine(gu 2 zD zD _).mono ?_;rintro _ K ⟨rfl,h7⟩;obtain⟨i4,g3,h8,Q⟩:=cX K (.string ⟨#[121]⟩) (.bool true) (.int .i64 1) (.string ⟨#[]⟩) (.int .i64 0) (.int .i64 0) (.int .u64 2) (.slice none 0 0) 42;have j7:=g3.symm;have j0:=Hd (h7.trans h8);have A:=Hd (show Blk i4 K.heap.size 42 (.string tY::.bool true::cZ 2) from Q);clear h7 g3 h8 Q j6;go_wp2_with fail
  go_at_call 14;refine(gu 1 zD zD _).mono ?_;rintro _ o0 ⟨rfl,c0⟩;have j1:=Hd (j0.o.trans c0);have f2:=Hd (A.o.ext c0);clear c0 j7 A;go_wp2_with fail
  go_at_call 20;refine(fD tY _).mono ?_;rintro _ V ⟨rfl,c1⟩;obtain⟨r,a0⟩:∃r,r=V.alloc (.cells #[.string ⟨#[97]⟩,.int .i64 1,.string ⟨#[]⟩,.int .i64 0,.int .i64 0,.int .u64 1,.slice none 0 0,.string ⟨#[121]⟩,.int .i64 2,.string tY,.int .i64 0,.int .i64 0,.int .u64 0,.slice none 0 0] 45):=⟨_,rfl⟩;have m3:=a0.symm;have b3:Blk r V.heap.size 45 (cBd tA (cZ 1)++cBd tY (cNm tY)):=by rw[a0];exact ar V _ (cBd tA (cZ 1)++cBd tY (cNm tY))
  have c2:Ext V r:=by rw[a0];exact ax _ _
  obtain⟨i5,g4,c3,b4⟩:=bI r (.int .i64 7) (.string ⟨#[117]⟩) (.string ⟨#[109]⟩) (.slice none 0 0) (.slice none 0 0) (.slice none 0 0) (.slice none 0 0) (.slice none 0 0) (.slice (some ⟨V.heap.size,0,none⟩) 2 2) 37;have m4:=g4.symm;obtain⟨s,g5,T,h2⟩:=bH i5 (.string ⟨#[116]⟩) (.slice none 0 0) (.slice (some ⟨K.heap.size,0,none⟩) 1 1) (.slice (some ⟨r.heap.size,0,none⟩) 1 1) 30;have m5:=g5.symm;have f7:=Hd (j1.o.trans (c1.trans (c2.trans (c3.trans T))));obtain⟨n0,n1,n2,n3⟩:=(i3.o.ext f7.o).get4;obtain⟨n4,n5,n6,n7⟩:=h2.get4;obtain⟨l,a1⟩:∃l,l=s.alloc (.cells #[.string tM,.slice (some ⟨E,0,none⟩) 1 1,.slice (some ⟨F,0,none⟩) 2 2,.slice (some ⟨G,0,none⟩) 1 1,.string ⟨#[116]⟩,.slice none 0 0,.slice (some ⟨K.heap.size,0,none⟩) 1 1,.slice (some ⟨r.heap.size,0,none⟩) 1 1] 30):=⟨_,rfl⟩;have m6:=a1.symm;have a2:Blk l s.heap.size 30 ([.string tM,.slice (some ⟨E,0,none⟩) 1 1,.slice (some ⟨F,0,none⟩) 2 2,.slice (some ⟨G,0,none⟩) 1 1]++[.string tTt,.slice none 0 0,.slice (some ⟨K.heap.size,0,none⟩) 1 1,.slice (some ⟨r.heap.size,0,none⟩) 1 1]):=by rw[a1];exact ar s _ ([.string tM,.slice (some ⟨E,0,none⟩) 1 1,.slice (some ⟨F,0,none⟩) 2 2,.slice (some ⟨G,0,none⟩) 1 1]++[.string tTt,.slice none 0 0,.slice (some ⟨K.heap.size,0,none⟩) 1 1,.slice (some ⟨r.heap.size,0,none⟩) 1 1])
  have U:Ext s l:=by rw[a1];exact ax _ _
  have a6:=c3.trans (T.trans U);have e7:=c1.trans (c2.trans a6);have j:=f7.o.trans U
  have k1:Sl (RM l l.heap.size) l l.heap.size 4 fEx (.slice (some ⟨s.heap.size,0,none⟩) 2 2):=
   Sl.twin a2.lt rfl rfl a2.cells zV
    (nU (g1:=0) (f6.o.ext j) (by exact⟨z.o.1.ext j,z.o.2.1.ext j,z.o.2.2.1.ext j,z.o.2.2.2.ext j⟩) (ac _))
    (nV (f2.o.ext e7) (b3.ext a6) (b4.ext (T.trans U)) (ac _))
  have R:=f4.o.ext j;have k3:=R.cell 0;simp only[List.getElem?_cons_zero] at k3;have n8:=R.frozen 0;have j9:=f4.o.lt;obtain⟨m,H⟩:∃m,m=l.setCell ⟨w.heap.size,0,none⟩ (.slice (some ⟨s.heap.size,0,none⟩) 2 2):=⟨_,rfl⟩;have m7:=H.symm;have h4:Blk m w.heap.size 24 [.slice (some ⟨s.heap.size,0,none⟩) 2 2]:=by rw[H];exact R.store1 _
  have i2:=h4.cell 0;simp only[List.getElem?_cons_zero] at i2;have e8:=Hd (show Sl (RM m m.heap.size) m m.heap.size 4 fEx (.slice (some ⟨s.heap.size,0,none⟩) 2 2)/\Ext w m from by
   refine⟨?_,by rw[H];exact(i9.o.trans j).setCell (ac _) _⟩;have t:∀{x:TypeId} {B:List Value} {u:Nat},Blk l u x B->x≠24->Blk m u x B:=λ{x B u} O b6=>by
    have I:u≠w.heap.size:=λe=>b6 (Blk.ty (e▸O) R)
    rw[H];exact O.far I _
   have m8:m.heap.size=l.heap.size:=by rw[H];simp[World.setCell]
   have h3:=t a2 zD
   exact Sl.twin h3.lt rfl rfl h3.cells zV
    (nU (g1:=0) (t (f6.o.ext j) zD) (by exact⟨t (z.o.1.ext j) zD,t (z.o.2.1.ext j) zD,t (z.o.2.2.1.ext j) zD,t (z.o.2.2.2.ext j) zD⟩) (ac _))
    (nV (t (f2.o.ext e7) zD) (t (b3.ext a6) zD) (t (b4.ext (T.trans U)) zD) (ac _)))
  clear c1 a0 b3 c2 g4 c3 b4 g5 T h2 a1 a2 U a6 e7 j k1 R j9 H h4;go_wp2_with fail
  refine bodyPost_ret (v:=.agg #[.slice (some ⟨s.heap.size,0,none⟩) 2 2]) ?_ rfl ⟨_,rfl,e8.o.1,e8.o.2⟩;simp[results,results29,go_sem,i2]
end Go.Proofs.YtlfmlodanoolhaaGreatDoor
namespace Go.Proofs.YtlfmlodanoolhaaGreatDoor
open Go Go.RowKit Go.Proofs.Tryz
def tLl:ByteArray:=⟨#[108]⟩
def tIi:ByteArray:=⟨#[105]⟩
def iWw:Itm:=.mk 2 tW ⟨#[]⟩ [xZ 20] [] [] [] [] []
def iAw:Itm:=.mk 4 ⟨#[]⟩ ⟨#[]⟩ [xNm tW,xNm tIi] [] [] [] [] []
def iFr(a b:Int):Itm:=.mk 9 tLl tIi [xZ a,xZ b] [] [iWw,iAw] [] [] []
def mLp(a b:Int):Mdl:=⟨tM,[],[],[iFr a b]⟩
theorem tX:bf tLl:=⟨zD,zD,zD,zD⟩
theorem pg:bf tIi:=⟨zD,zD,zD,zD⟩
theorem sm:MayI iWw:=.mk _ ⟨zD,zD,.inl ⟨(show(2:Int)≠4/\(2:Int)≠5/\(2:Int)≠6/\(2:Int)≠8 by decide),oj⟩,.inr ⟨(show¬((2:Int)=7\/(2:Int)=9) by decide),rfl⟩,rfl,(λc=>absurd c (show¬(2:Int)=4 by decide)),.inr (.inr rfl),.inr (.inr rfl),.inr rfl,.inr ⟨rfl,rfl⟩⟩
 (dE (fC 20)) (λb a=>by cases a) (λb a=>by cases a) (λb a=>by cases a) (λb a=>by cases a) (λb a=>by cases a)
theorem si:MayI iAw:=.mk _ ⟨zD,zD,.inr ⟨zD,rfl⟩,.inr ⟨zD,rfl⟩,rfl,(λ_=>.inl rfl),.inr (.inr rfl),.inr (.inr rfl),.inr rfl,.inr ⟨rfl,rfl⟩⟩ (dd (may_nm.2 oj) (may_nm.2 pg)) (λb a=>by cases a) (λb a=>by cases a) (λb a=>by cases a) (λb a=>by cases a) (λb a=>by cases a)
theorem sj(a b:Int):MayI (iFr a b):=.mk _ ⟨show(1:Int)<=9 by decide,show(9:Int)<=10 by decide,.inl ⟨(show(9:Int)≠4/\(9:Int)≠5/\(9:Int)≠6/\(9:Int)≠8 by decide),tX⟩,.inl ⟨.inr rfl,pg⟩,rfl,(λe=>absurd e (show¬(9:Int)=4 by decide)),.inr (.inr rfl),.inr (.inl rfl),.inr rfl,.inr ⟨rfl,rfl⟩⟩
 (dd (fC a) (fC b)) (λd c=>by cases c) (dd sm si) (λd c=>by cases c) (λd c=>by cases c) (λd c=>by cases c)
theorem sn(a b:Int):dk (mLp a b):=⟨lq,(λd c=>by cases c),(λd c=>by cases c),dE (sj a b)⟩
theorem pu(a b:Int):ab ay [mLp a b]=9:=rfl
theorem tf(a b:Int):aj dV [mLp a b]=4:=rfl
theorem uI(a b:Int):dC [mLp a b]=0:=by
 unfold dC;rw[if_neg (show¬64<[mLp a b].length from(by decide:¬64<1)),yes_iff.2 (show∀c,c∈[mLp a b]->dk c from dE (sn a b)),kv];exact⟨by rw[pu];decide,by rw[tf];decide,rfl⟩
theorem qh{a b:Int}(ha:bF a)(e:bF b):∀f,f∈[mLp a b]->VM f:=dE ⟨show(1:Nat)<4294967281 by decide,(λd c=>by cases c),(λd c=>by cases c),dE (.mk _ (show(1:Nat)<4294967281 by decide) (show(1:Nat)<4294967281 by decide) (dd (hu ha.1 ha.2) (hu e.1 e.2)) (λd c=>by cases c)
 (dd (.mk _ zD zD (dE (hu zD zD)) (λd c=>by cases c) (λd c=>by cases c) (λd c=>by cases c) (λd c=>by cases c) (λd c=>by cases c)) (.mk _ zD zD (dd (fJ zD) (fJ zD)) (λd c=>by cases c) (λd c=>by cases c) (λd c=>by cases c) (λd c=>by cases c) (λd c=>by cases c)))
 (λd c=>by cases c) (λd c=>by cases c) (λd c=>by cases c))⟩
theorem pC(a b:Int):bN (mLp a b)=[]:=by
 have c:bJ (mLp a b).items=[]:=by show bJ [iFr a b]=[];simp[bJ,ofI,iFr,iWw,iAw]
 unfold bN;rw[c];rfl
theorem lz:al [iWw,iAw]=[tW]:=by simp[al,tnI,iWw,iAw,dp]
theorem qf(a b:Int):al [iFr a b]=[tLl]:=by simp[al,tnI,iFr,dp]
theorem vX(a b:Int):dN (mLp a b):=by
 have e:gh (mLp a b)=[tLl]:=by show al [iFr a b]++([]++[])=_;rw[qf];rfl
 refine⟨?_,?_,?_⟩
 ·show cq [iFr a b];simp[cq,eS,iFr]
 ·rw[e];simp
 ·rw[e];show aP _ [iFr a b];rw[aP,aP,jF];refine⟨⟨by show bi _ [];simp[bi],λd=>absurd d (show¬(9:Int)=8 by decide),λ_=>⟨⟨?_,?_⟩,?_,?_,?_⟩⟩,trivial⟩
  ·show cq [iWw,iAw];simp[cq,eS,iWw,iAw]
  ·show(al [iWw,iAw]).Nodup;rw[lz];simp
  ·show¬tIi∈al [iWw,iAw];rw[lz];exact λd=>dF (a:=tIi) (b:=tW) zD (y2m.1 d)
  ·intro g c f;rw[List.mem_singleton.1 f] at c;rcases c with c|c
   ·rw[show(iFr a b).l=[iWw,iAw] from rfl,lz] at c;exact dF (a:=tLl) (b:=tW) zD (y2m.1 c)
   ·exact dF (a:=tLl) (b:=tIi) zD c
  ·show aP _ [iWw,iAw];simp[aP,inI,iWw,iAw,bi]
theorem sv(a b:Int):cN [mLp a b] []=some (mLp a b):=by
 refine il (f:=[mLp a b]) (i:=0) (show 0<1 by decide) (show dZ [] (mLp a b) from⟨zS,λs c=>by rw[pC] at c;cases c⟩) (λg d e=>by omega)
theorem uh(a b:Int):ct [mLp a b]=[tM]:=by
 unfold ct;show dc [mLp a b] 1 []=_;unfold dc;rw[sv];rfl
theorem uJ(a b:Int):da [mLp a b]=0:=by
 unfold da;rw[if_pos (uI a b)];have d:=lg (f:=[mLp a b]) ⟨by show [tM].Nodup;simp,dE (vX a b)⟩ (λg e s c=>by
  rw[List.mem_singleton.1 e,pC] at c;cases c)
 rw[d,uh];rfl
def nmL(v:Int):ByteArray:=(⟨#[]⟩:ByteArray)++(tLl++tOpen++bn v++tShut)++tW
def dw:Nat->Int->List Sg
 |0,_=>[]
 |n+1,v=>⟨nmL v,20,3,0⟩::dw n (v+1)
def dv:Nat->Int->Int->List Pc
 |0,_,_=>[]
 |n+1,j,v=>⟨false,[cv (j,19,0) (bq 0 v)]⟩::dv n (j+1) (v+1)
theorem fS:∀n v,(dw n v).length=n
 |0,_=>rfl
 |n+1,v=>by show(dw n (v+1)).length+1=_;rw[fS n]
theorem fR:∀n j v,(dv n j v).length=n
 |0,_,_=>rfl
 |n+1,j,v=>by show(dv n (j+1) (v+1)).length+1=_;rw[fR n]
theorem oz:∀(n:Nat) (v:Int) (k:Nat) (h:k<(dw n v).length),(dw n v)[k]=⟨nmL (v+k),20,3,0⟩
 |0,v,k,h=>by rw[fS] at h;omega
 |n+1,v,0,h=>by show(⟨nmL v,20,3,0⟩:Sg)=_;simp
 |n+1,v,k+1,h=>by
  show(dw n (v+1))[k]'(by rw[fS];rw[fS] at h;omega)=_;rw[oz n (v+1) k,show v+1+(k:Int)=v+((k+1:Nat):Int) by omega]
theorem ow:∀(n:Nat) (j v:Int) (k:Nat) (h:k<(dv n j v).length),(dv n j v)[k]=⟨false,[cv (j+k,19,0) (bq 0 (v+k))]⟩
 |0,j,v,k,h=>by rw[fR] at h;omega
 |n+1,j,v,0,h=>by show(⟨false,[cv (j,19,0) (bq 0 v)]⟩:Pc)=_;simp
 |n+1,j,v,k+1,h=>by
  show(dv n (j+1) (v+1))[k]'(by rw[fR];rw[fR] at h;omega)=_;rw[ow n (j+1) (v+1) k,show v+1+(k:Int)=v+((k+1:Nat):Int) by omega,show j+1+(k:Int)=j+((k+1:Nat):Int) by omega]
def sc0:Sc:=⟨[],λ_=>none,⟨#[]⟩⟩
theorem uG(inst:Itm->Sc->Mk->Rs Mk)(v:Int)(m:Mk)(c:m.d.sigs.length<512)(h2:m.bits+20<=4096)(h3:m.count+4<=65536)(e:m.d.procs.length<1024):
 ∃s,aY inst [iWw,iAw] (sc0.pass tLl tIi v) m=.ok (s,⟨⟨m.d.sigs++[⟨nmL v,20,3,0⟩],m.d.procs++[⟨false,[cv (m.d.sigs.length,19,0) (bq 0 v)]⟩],m.d.chks⟩,m.count+4,m.bits+20⟩):=by
 refine⟨⟨[(tIi,v)],av (λ_=>none) tW m.d.sigs.length,(⟨#[]⟩:ByteArray)++(tLl++tOpen++bn v++tShut)⟩,?_⟩;rw[aY];refine aH (dK zO) ?_;refine aH (x:=(⟨[(tIi,v)],av (λ_=>none) tW m.d.sigs.length,(⟨#[]⟩:ByteArray)++(tLl++tOpen++bn v++tShut)⟩,⟨⟨m.d.sigs++[⟨nmL v,20,3,0⟩],m.d.procs,m.d.chks⟩,m.count+1,m.bits+20⟩)) ?_ ?_
 ·unfold iWw;rw[aC,if_neg zD,if_pos rfl];refine aH (kk (oe zD _) zD) ?_;exact jq c h2
 rw[aY];refine aH (dK (show m.count+1+1<=65536 by omega)) ?_;refine aH (x:=(⟨[(tIi,v)],av (λ_=>none) tW m.d.sigs.length,(⟨#[]⟩:ByteArray)++(tLl++tOpen++bn v++tShut)⟩,⟨⟨m.d.sigs++[⟨nmL v,20,3,0⟩],m.d.procs++[⟨false,[cv (m.d.sigs.length,19,0) (bq 0 v)]⟩],m.d.chks⟩,m.count+4,m.bits+20⟩)) ?_ (by rw[aY]);unfold iAw;rw[aC,if_neg zD,if_neg zD,if_neg zD,if_pos rfl];have b:bg (m.d.sigs++[⟨nmL v,20,3,0⟩]) m.d.sigs.length=⟨nmL v,20,3,0⟩:=wf _ _;refine aH (x:=(cv (m.d.sigs.length,19,0) (bq 0 v),⟨⟨m.d.sigs++[⟨nmL v,20,3,0⟩],m.d.procs,m.d.chks⟩,m.count+4,m.bits+20⟩)) ?_ ?_
 ·unfold cJ;refine aH (dK (show m.count+1+1+1<=65536 by omega)) ?_;refine aH (x:=((m.d.sigs.length:Int),19,0)) ?_ ?_
  ·refine(jP (a:=(m.d.sigs.length:Int)) (by show(if tW=tW then some (m.d.sigs.length:Int) else none)=_;rw[if_pos rfl]) (by show 1<=(bg (m.d.sigs++[⟨nmL v,20,3,0⟩]) m.d.sigs.length).w;rw[b];exact(by decide:(1:Int)<=20)) (by show dP false (bg (m.d.sigs++[⟨nmL v,20,3,0⟩]) m.d.sigs.length).kind=true;rw[b];exact(by decide:dP false 3=true))).trans ?_;show Except.ok ((m.d.sigs.length:Int),(bg (m.d.sigs++[⟨nmL v,20,3,0⟩]) m.d.sigs.length).w - 1,(0:Int))=_;rw[b];rfl
  refine aH (x:=(bq 0 v,⟨⟨m.d.sigs++[⟨nmL v,20,3,0⟩],m.d.procs,m.d.chks⟩,m.count+4,m.bits+20⟩)) ?_ rfl;unfold aF;refine aH (nD (v:=v) (by show(if tIi=tIi then some v else none)=_;rw[if_pos rfl])) ?_;refine aH (dK (show m.count+1+1+1+1<=65536 by omega)) ?_;show Except.ok _=_;rw[show m.count+1+1+1+1=m.count+4 by omega]
 ·exact aH (iK e) rfl
theorem nb(inst:Itm->Sc->Mk->Rs Mk):∀(n:Nat) (v:Int) (m:Mk),m.d.sigs.length+n<=500->m.d.procs.length+n<=1000->m.count+5*n<=65536->m.bits+20*n<=4096->
 fI (λv b=>do let z<-aY inst [iWw,iAw] (sc0.pass tLl tIi v) b;return z.2) n v m=.ok ⟨⟨m.d.sigs++dw n v,m.d.procs++dv n m.d.sigs.length v,m.d.chks⟩,m.count+5*n,m.bits+20*n⟩
 |0,v,m,_,_,_,_=>by
  show Except.ok m=Except.ok _
  congr 1
  obtain⟨⟨c,f,g⟩,d,e⟩:=m;simp[dw,dv]
 |n+1,v,m,h1,h2,h3,h4=>by
  rw[fI];refine aH (dK zO) ?_;obtain⟨s,a⟩:=uG inst v {m with count:=m.count+1} (show m.d.sigs.length<512 by omega) (show m.bits+20<=4096 by omega) (show m.count+1+4<=65536 by omega) (show m.d.procs.length<1024 by omega);refine aH (aH a rfl) ?_;rw[nb inst n (v+1) _ (by show(m.d.sigs++_).length+n<=500;rw[List.length_append];show m.d.sigs.length+1+n<=500;omega) (by show(m.d.procs++_).length+n<=1000;rw[List.length_append];show m.d.procs.length+1+n<=1000;omega) (by show m.count+1+4+5*(n:Int)<=65536;omega) (by show m.bits+20+20*(n:Int)<=4096;omega)];show(Except.ok (⟨⟨m.d.sigs++[⟨nmL v,20,3,0⟩]++dw n (v+1),m.d.procs++[⟨false,[cv (m.d.sigs.length,19,0) (bq 0 v)]⟩]++dv n ((m.d.sigs++[(⟨nmL v,20,3,0⟩:Sg)]).length:Int) (v+1),m.d.chks⟩,m.count+1+4+5*(n:Int),m.bits+20+20*(n:Int)⟩:Mk):Rs Mk)=_;rw[List.append_assoc,List.append_assoc,List.length_append,show m.count+1+4+5*(n:Int)=m.count+5*((n+1:Nat):Int) by omega,show m.bits+20+20*(n:Int)=m.bits+20*((n+1:Nat):Int) by omega];rfl
theorem uT{a:Int}{n:Nat}(ha:0<=a)(c:a<=100000)(d:n<=19):bv [mLp a (a+n)] tM []=(⟨dw n a,dv n 0 a,[]⟩,0):=by
 have b:cc [mLp a (a+n)] tM []=.ok ⟨dw n a,dv n 0 a,[]⟩:=by
  unfold cc;rw[if_neg (by rw[uJ];decide),show bU [mLp a (a+n)] tM=some (mLp a (a+n)) from rL (mLp a (a+n))];refine aH (x:=λ_=>none) rfl ?_;refine aH (x:=(sc0,noMk)) rfl ?_;refine aH (x:=(sc0,⟨⟨dw n a,dv n 0 a,[]⟩,1+5*n,20*n⟩)) ?_ rfl;rw[show(mLp a (a+n)).items=[iFr a (a+n)] from rfl,aY];refine aH (dK zD) ?_;refine aH (x:=(sc0,⟨⟨dw n a,dv n 0 a,[]⟩,1+5*n,20*n⟩)) ?_ (by rw[aY]);unfold iFr;rw[aC,if_neg zD,if_neg zD,if_neg zD,if_neg zD,if_neg zD,if_neg zD,if_neg zD,if_neg zD,if_pos rfl];refine aH (lc (z:=a) ⟨ha,zO⟩ _) ?_;refine aH (lc (z:=a+n) ⟨zO,zO⟩ _) ?_;rw[show(a+(n:Int) - a).toNat=n by omega];refine aH (nb _ n a _ (by show 0+n<=500;omega) (by show 0+n<=1000;omega) (by show(0:Int)+1+5*(n:Int)<=65536;omega) (by show(0:Int)+20*(n:Int)<=4096;omega)) ?_;show(Except.ok (sc0,(⟨⟨[]++dw n a,[]++dv n 0 a,[]⟩,0+1+5*(n:Int),0+20*(n:Int)⟩:Mk)):Rs (Sc×Mk))=_;rw[List.nil_append,List.nil_append,show(0:Int)+1+5*(n:Int)=1+5*(n:Int) by omega,Int.zero_add]
 unfold bv;rw[b]
def gg(k:Nat):ByteArray:=⟨#[UInt8.ofNat (48+k)]⟩
theorem tg{n:Nat}(h:10<=n):bn (n:Int)=bn ((n / 10:Nat):Int)++gg (n % 10):=by
 refine gN ?_;rw[fy,li zO,li zO,Int.toNat_natCast,Int.toNat_natCast,Lib.decDigits,dif_neg zO];rfl
theorem rI{n:Nat}(h:n<10):bn (n:Int)=gg n:=by
 refine gN ?_;rw[li zO,Int.toNat_natCast,Lib.decDigits,dif_pos h];rfl
end Go.Proofs.YtlfmlodanoolhaaGreatDoor
