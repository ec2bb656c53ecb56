import Derived.Test.YtlfmlodanoolhaaGreatDoorE35
import Derived.Test.YtlfmlodanoolhaaGreatDoorE37
set_option linter.all false
set_option maxRecDepth 200000
set_option maxHeartbeats 32000000
namespace Go.Proofs.YtlfmlodanoolhaaGreatDoor
open Go Go.RowKit Go.Proofs.Tryz
def tTt:ByteArray:=⟨#[116]⟩
def tNn:ByteArray:=⟨#[78]⟩
def tMm:ByteArray:=⟨#[77]⟩
def tXx:ByteArray:=⟨#[120]⟩
def xZ(z:Int):X:=.mk 1 ⟨#[]⟩ 0 0 z []
def xSum:X:=.mk 6 ⟨#[]⟩ 14 0 0 [xNm tA,xNm tNn]
def iAs:Itm:=.mk 4 ⟨#[]⟩ ⟨#[]⟩ [xNm tY,xSum] [] [] [] [] []
def mMm:Mdl:=⟨tM,[⟨tNn,xZ 2⟩],[⟨tA,false,xNm tNn⟩,⟨tY,true,xNm tNn⟩],[iAs]⟩
def iIn:Itm:=.mk 7 tU tM [] [] [] [] [] [⟨tA,xZ 1⟩,⟨tY,xNm tY⟩]
def mTt:Mdl:=⟨tTt,[],[⟨tY,true,xZ 2⟩],[iIn]⟩
def fEx:List Mdl:=[mMm,mTt]
theorem q0e:z2y tNn:=⟨by decide,by decide,by decide,by decide⟩
theorem k3k:z2y tTt:=⟨by decide,by decide,by decide,by decide⟩
theorem k3m:MayX xSum:=.mk _ ⟨.inr (.inr (.inl ⟨.inr (.inl rfl),rfl⟩)),.inr (.inl ⟨rfl,by decide,by decide⟩),.inl ⟨by decide,rfl,rfl⟩,.inr ⟨by unfold z3z;decide,rfl⟩⟩ (z5l (may_nm.2 j1l) (may_nm.2 q0e))
theorem k7i:MayI iAs:=.mk _ ⟨by decide,by decide,.inr ⟨by decide,rfl⟩,.inr ⟨by decide,rfl⟩,rfl,(fun _=>.inl rfl),.inr (.inr rfl),.inr (.inr rfl),.inr rfl,.inr ⟨rfl,rfl⟩⟩ (z5l (may_nm.2 q4a) k3m) (fun y hy=>by cases hy) (fun y hy=>by cases hy) (fun y hy=>by cases hy) (fun y hy=>by cases hy) (fun y hy=>by cases hy)
theorem k7g:j2j mMm:=⟨j8y,z8p ⟨q0e,z8j 2⟩,z5l ⟨j1l,may_nm.2 q0e⟩ ⟨q4a,may_nm.2 q0e⟩,z8p k7i⟩
theorem k7h:MayI iIn:=.mk _ ⟨by decide,by decide,.inl ⟨(show(7:Int)≠4∧(7:Int)≠5∧(7:Int)≠6∧(7:Int)≠8 by decide),k7b⟩,.inl ⟨.inl rfl,j8y⟩,rfl,(fun h=>absurd h (show¬(7:Int)=4 by decide)),.inr (.inr rfl),.inr (.inr rfl),.inr rfl,.inl rfl⟩
 (fun y hy=>by cases hy) (fun y hy=>by cases hy) (fun y hy=>by cases hy) (fun y hy=>by cases hy) (fun y hy=>by cases hy) (z5l ⟨j1l,z8j 1⟩ ⟨q4a,may_nm.2 q4a⟩)
theorem k7f:j2j mTt:=⟨k3k,(fun y hy=>by cases hy),z8p ⟨q4a,z8j 2⟩,z8p k7h⟩
theorem k1h:z6t fEx=0:=by
 unfold z6t;rw[if_neg (by decide),yes_iff.2 (show∀m,m∈fEx→j2j m from z5l k7g k7f)];decide
theorem k6d{z:Int}(h0:0≤z)(h1:z≤2147483647):VX (xZ z):=.mk _ h0 (show z<18446744073709551616 by omega) (show(0:Nat)<4294967281 by decide) (fun y hy=>by cases hy)
theorem k6e:VX xSum:=.mk _ (by decide) (by decide) (by decide) (z5l (j4s (by decide)) (j4s (by decide)))
theorem k8s:VI iAs:=.mk _ (by decide) (by decide) (z5l (j4s (by decide)) k6e) (fun y hy=>by cases hy) (fun y hy=>by cases hy) (fun y hy=>by cases hy) (fun y hy=>by cases hy) (fun y hy=>by cases hy)
theorem k8r:VI iIn:=.mk _ (by decide) (by decide) (fun y hy=>by cases hy) (fun y hy=>by cases hy) (fun y hy=>by cases hy) (fun y hy=>by cases hy) (fun y hy=>by cases hy) (z5l ⟨by decide,k6d (by decide) (by decide)⟩ ⟨by decide,j4s (by decide)⟩)
theorem y0q:∀m,m∈fEx→VM m:=z5l ⟨by decide,z8p ⟨by decide,k6d (by decide) (by decide)⟩,z5l ⟨by decide,j4s (by decide)⟩ ⟨by decide,j4s (by decide)⟩,z8p k8s⟩ ⟨by decide,(fun y hy=>by cases hy),z8p ⟨by decide,k6d (by decide) (by decide)⟩,z8p k8r⟩
theorem z4v{a b:ByteArray}(h:a.data≠b.data):¬a=b:=fun e=>h (congrArg ByteArray.data e)
theorem k9y:¬tA=tY:=z4v (by decide)
theorem k2f:¬tY=tA:=z4v (by decide)
theorem k7c:¬tM=tTt:=z4v (by decide)
theorem j2m:z4t mMm=[]:=by
 have h:q2m mMm.items=[]:=by show q2m [iAs]=[];simp[q2m,ofI,iAs]
 unfold z4t;rw[h];rfl
theorem j2l:z4t mTt=[tM]:=by
 have h:q2m mTt.items=[tM]:=by show q2m [iIn]=[tM];simp[q2m,ofI,iIn]
 unfold z4t;rw[h];exact z6x (by simp)
theorem j8g:z6i mMm:=by
 refine⟨?_,?_,?_⟩
 ·show z8b [iAs];simp[z8b,k5l,iAs]
 ·show(z1u [iAs]++([tA,tY]++[tNn])).Nodup;rw[show z1u [iAs]=[] from by simp[z1u,tnI,iAs,z5w]];simp[k9y,show¬tA=tNn from z4v (by decide),show¬tY=tNn from z4v (by decide)]
 ·show z7r _ [iAs];simp[z7r,inI,iAs,z9h]
theorem j8f:z6i mTt:=by
 refine⟨?_,?_,?_⟩
 ·show z8b [iIn];simp[z8b,k5l,iIn]
 ·show(z1u [iIn]++([tY]++[])).Nodup;rw[show z1u [iIn]=[tU] from by simp[z1u,tnI,iIn,z5w]];simp[show¬tU=tY from z4v (by decide)]
 ·show z7r _ [iIn];simp[z7r,inI,iIn,z9h]
theorem k3j:z8h fEx []=some mMm:=by
 refine q6u (f:=fEx) (i:=0) (by decide) (show z7q [] mMm from⟨by simp,fun s hs=>by rw[j2m] at hs;cases hs⟩) (fun j h' hj=>by omega)
theorem k3i:z8h fEx [tM]=some mTt:=by
 refine q6u (f:=fEx) (i:=1) (by decide) (show z7q [tM] mTt from⟨fun h=>k7c (y2d.1 h).symm,fun s hs=>by rw[j2l] at hs;exact hs⟩) (fun j h' hj=>?_);obtain rfl:j=0:=by omega
 exact fun h=>h.1 (y2d.2 rfl)
theorem k3b:z3w fEx=[tM,tTt]:=by
 unfold z3w;show z5g fEx 2 []=_;unfold z5g;rw[k3j];show z5g fEx 1 [tM]=_;unfold z5g;rw[k3i];rfl
theorem q0t:z5j fEx=0:=by
 unfold z5j;rw[if_pos k1h];have h:=k5q (f:=fEx) ⟨by show [tM,tTt].Nodup;simp[k7c],z5l j8g j8f⟩ (fun m hm s hs=>by
  rcases List.mem_cons.1 hm with rfl|hm
  ·rw[j2m] at hs;cases hs
  ·rw[List.mem_singleton.1 hm,j2l] at hs;rw[List.mem_singleton.1 hs];show tM∈[tM,tTt];simp)
 rw[h,k3b];rfl
theorem q6z:z5z fEx tM=some mMm:=q7a (f:=fEx) (i:=0) (by decide) rfl (fun j h' hj=>by omega)
theorem k4i:z5z fEx tTt=some mTt:=q7a (f:=fEx) (i:=1) (by decide) rfl (fun j h' hj=>by
 obtain rfl:j=0:=by omega
 exact k7c)
theorem k4h:z5z fEx tXx=none:=j4a (by
 intro x hx;rcases List.mem_cons.1 hx with rfl|hx
 ·exact z4v (by decide)
 ·rw[List.mem_singleton.1 hx];exact z4v (by decide))
theorem k9n{z:Int}(h:z1j z)(s:Sc):z1p s (xZ z)=.ok z:=j6d (x:=xZ z) rfl rfl h (z8j z) s
theorem k8b{z:Int}(h:z1j z)(env:List (ByteArray×Int)):z3f env (xZ z)=(z,0):=by
 unfold z3f;rw[if_pos (show z7s (xZ z)=0 from checkX_zero.2 ⟨by rw[z3u];show(1:Nat)+0≤_;decide,by rw[q0p];show(1:Nat)+0≤_;decide,z8j z⟩)];show z1x _ (.mk 1 ⟨#[]⟩ 0 0 z [])=_;rw[j4d];unfold z6g;rw[if_pos h]
theorem k4l{env:List (ByteArray×Int)}{nm:ByteArray}{v:Int}(hn:z2y nm)(hv:z1j v)(h:z3m env nm=some v):z3f env (xNm nm)=(v,0):=by
 unfold z3f;rw[if_pos (checkX_zero.2 ⟨by rw[z3u];show(1:Nat)+0≤_;decide,by rw[q0p];show(1:Nat)+0≤_;decide,may_nm.2 hn⟩),z5b];show q2y _ 2 nm 0 0 0 []=_;unfold q2y;rw[if_neg (by decide),if_pos rfl,h];show z6g v=_;unfold z6g;rw[if_pos hv]
theorem j2k{s:Sc}{x:X}{v:Int}(h:z3f s.env x=(v,0))(hv:1≤v∧v≤64):z2q s x=.ok v:=by
 unfold z2q q5c;rw[h,if_neg (by simp only;omega)];rfl
theorem q2s{n:Int}{m:Mk}(h:m.count+n≤65536):z7a n m=.ok {m with count:=m.count+n}:=if_pos h
theorem z8a{p:Prop} [Decidable p]{e:Int}(h:p):z0o p e=.ok ():=if_pos h
theorem q3t{nm:ByteArray}{w kind init:Int}{s:Sc}{m:Mk}(h1:m.d.sigs.length<512)(h2:m.bits+w≤4096):z2n nm w kind init s m=.ok ({s with sigs:=z3h s.sigs nm m.d.sigs.length},{m with bits:=m.bits+w,d:={m.d with sigs:=m.d.sigs++[⟨s.path++nm,w,kind,init⟩]}}):=if_pos ⟨h1,h2⟩
theorem q1j{clk:Bool}{l:List DT}{m:Mk}(h:m.d.procs.length<1024):z1g clk l m=.ok {m with d:={m.d with procs:=m.d.procs++[⟨clk,l⟩]}}:=if_pos h
theorem j0l{sg:List Sg}{s:Sc}{nm:ByteArray}{a:Int}(h:s.sigs nm=some a)(hw:1≤(z9s sg a).w):z5q sg s (xNm nm)=.ok (a,(z9s sg a).w - 1,0):=by
 unfold z5q z6n;rw[show(xNm nm).name=nm from rfl,h];simp only[bind,Except.bind,pure,Except.pure];rw[if_pos (show(xNm nm).op=2 from rfl),z8a (by omega)]
theorem q3q{sg:List Sg}{s:Sc}{nm:ByteArray}{a:Int}(h:s.sigs nm=some a)(hw:1≤(z9s sg a).w)(hk:z7p false (z9s sg a).kind=true):z2t sg s false (xNm nm)=.ok (a,(z9s sg a).w - 1,0):=by
 unfold z2t;rw[z8a (.inl rfl),j0l h hw];simp only[bind,Except.bind,pure,Except.pure];rw[z8a hk]
theorem q7b{sg:List Sg}{s:Sc}{nm:ByteArray}{a:Int}(hl:z3m s.env nm=none)(h:s.sigs nm=some a)(hw:1≤(z9s sg a).w):z1f sg s (xNm nm)=.ok (k2l (a,(z9s sg a).w - 1,0),1):=by
 rw[z3j];unfold q0s;rw[if_neg (show¬(xNm nm).op=1 from fun h=>absurd h (show¬(2:Int)=1 by decide)),if_pos (show(xNm nm).op=2 from rfl),show(xNm nm).name=nm from rfl,hl];simp only;rw[j0l h hw];rfl
theorem q7c{sg:List Sg}{s:Sc}{nm:ByteArray}{v:Int}(hl:z3m s.env nm=some v):z1f sg s (xNm nm)=.ok (q2x 0 v,1):=by
 rw[z3j];unfold q0s;rw[if_neg (show¬(xNm nm).op=1 from fun h=>absurd h (show¬(2:Int)=1 by decide)),if_pos (show(xNm nm).op=2 from rfl),show(xNm nm).name=nm from rfl,hl]
theorem k9m(sg:List Sg)(s:Sc)(z:Int):z1f sg s (xZ z)=.ok (q2x 0 z,1):=by
 rw[z3j];unfold q0s;rw[if_pos (show(xZ z).op=1 from rfl)];rfl
theorem k4j{sg:List Sg}{s:Sc}{a n:Int}(hl:z3m s.env tA=none)(h:s.sigs tA=some a)(hw:1≤(z9s sg a).w)(hN:z3m s.env tNn=some n):z1f sg s xSum=.ok (.mk 5 0 0 0 0 0 14 [k2l (a,(z9s sg a).w - 1,0),q2x 0 n],3):=by
 rw[z3j,show xSum.l=[xNm tA,xNm tNn] from rfl,List.map_cons,List.map_cons,List.map_nil,q7b hl h hw,q7c hN];unfold q0s;rw[if_neg (by decide),if_neg (by decide),if_neg (by decide),if_neg (by decide),if_neg (by decide),if_neg (by decide)];rfl
theorem j9p(inst:Itm→Sc→Mk→Rs Mk)(s:Sc)(m:Mk){a b n:Int}(hl:z3m s.env tA=none)(hN:z3m s.env tNn=some n)(ha:s.sigs tA=some a)(hb:s.sigs tY=some b)(hwa:1≤(z9s m.d.sigs a).w)(hwb:1≤(z9s m.d.sigs b).w)(hk:z7p false (z9s m.d.sigs b).kind=true)
 (hc:m.count+5≤65536) (hp:m.d.procs.length<1024):∃p,z1r inst [iAs] s m=.ok (s,{m with count:=m.count+5,d:={m.d with procs:=m.d.procs++[p]}}):=by
 refine⟨⟨false,[j4n (b,(z9s m.d.sigs b).w - 1,0) (.mk 5 0 0 0 0 0 14 [k2l (a,(z9s m.d.sigs a).w - 1,0),q2x 0 n])]⟩,?_⟩;rw[z1r,q2s (by omega)];simp only[bind,Except.bind,pure,Except.pure];unfold iAs;rw[z1m,if_neg (by decide),if_neg (by decide),if_neg (by decide),if_pos rfl];simp only[bind,Except.bind,pure,Except.pure];unfold z2p;rw[q2s (by simp only;omega)];simp only[bind,Except.bind,pure,Except.pure];rw[show xAt [xNm tY,xSum] 0=xNm tY from rfl,show xAt [xNm tY,xSum] 1=xSum from rfl,q3q hb hwb hk];simp only;unfold z0q;rw[k4j hl ha hwa hN];simp only[bind,Except.bind,pure,Except.pure];rw[q2s (by simp only;omega)];simp only;rw[q1j (by exact hp)];simp only;rw[z1r];simp only[show m.count+1+1+3=m.count+5 by omega]
theorem k5w{T:ByteArray→Option Int}{n:Int}(hT:T tNn=some n∨T tNn=none∧n=2)(hn:1≤n∧n≤64)(p:ByteArray)(kd:Prt→Int)(m:Mk)(h1:m.d.sigs.length+2≤512)(h2:m.bits+n+n≤4096):
 q4k mMm T p kd m=.ok (⟨[(tNn,n)],z3h (z3h (fun _=>none) tA m.d.sigs.length) tY (m.d.sigs.length+1),p⟩,{m with bits:=m.bits+n+n,d:={m.d with sigs:=m.d.sigs++[⟨p++tA,n,kd ⟨tA,false,xNm tNn⟩,0⟩]++[⟨p++tY,n,kd ⟨tY,true,xNm tNn⟩,0⟩]}}):=by
 unfold q4k mMm;simp only;have hps:z2v T [⟨tNn,xZ 2⟩] ⟨[],fun _=>none,p⟩=.ok ⟨[(tNn,n)],fun _=>none,p⟩:=by
  rw[z2v];rcases hT with hT|⟨hT,rfl⟩
  ·simp only[hT,bind,Except.bind];rw[z2v];rfl
  ·simp only[hT];rw[k9n (by decide)];simp only[bind,Except.bind];rw[z2v];rfl
 rw[hps];have hw:∀sg:ByteArray→Option Int,z2q ⟨[(tNn,n)],sg,p⟩ (xNm tNn)=.ok n:=fun sg=>j2k (k4l q0e ⟨by omega,by omega⟩ (by show(if tNn=tNn then some n else none)=_;rw[if_pos rfl])) hn
 simp only[bind,Except.bind];rw[z3v];simp only[bind,Except.bind];rw[hw];simp only;rw[q3t (by omega) (by omega)];simp only;rw[z3v];simp only[bind,Except.bind];rw[hw];simp only;rw[q3t (by simp only[List.length_append,List.length_cons,List.length_nil];omega) (by simp only;omega)];simp only;rw[z3v];simp only[List.length_append,List.length_cons,List.length_nil];rfl
theorem z1d{α β:Type}{a:Rs α}{x:α}{f:α→Rs β}{r:Rs β}(h:a=.ok x)(k:f x=r):(a>>=f)=r:=by rw[h];exact k
theorem j4f{ps:List (ByteArray×Int)}{T:ByteArray→Option Int}{n:Int}(ht:z9k mMm ps (fun _=>none)=.ok T)(hT:T tNn=some n∨T tNn=none∧n=2)(hn:1≤n∧n≤64):∃p,z4b fEx tM ps=(⟨[⟨tA,n,1,0⟩,⟨tY,n,2,0⟩],[p],[]⟩,0):=by
 obtain⟨p,hp⟩:=j9p (z6o fEx fEx.length) ⟨[(tNn,n)],z3h (z3h (fun _=>none) tA 0) tY 1,⟨#[]⟩⟩ ⟨⟨[⟨tA,n,1,0⟩,⟨tY,n,2,0⟩],[],[]⟩,0,n+n⟩ (a:=0) (b:=1) (n:=n)
  (by show(if tNn=tA then some n else none)=none;rw[if_neg (z4v (by decide))]) (by show(if tNn=tNn then some n else none)=_;rw[if_pos rfl])
  (by show(if tY=tA then some (1:Int) else if tA=tA then some 0 else none)=_;rw[if_neg k2f,if_pos rfl]) (by show(if tY=tY then some (1:Int) else if tA=tY then some 0 else none)=_;rw[if_pos rfl])
  hn.1 hn.1 rfl (by show(0:Int)+5≤_;decide) (by show(0:Nat)<_;decide)
 refine⟨p,?_⟩;have h:z6a fEx tM ps=.ok ⟨[⟨tA,n,1,0⟩,⟨tY,n,2,0⟩],[p],[]⟩:=by
  unfold z6a;rw[if_neg (by rw[q0t];decide),q6z];refine z1d ht ?_;refine z1d (x:=(⟨[(tNn,n)],z3h (z3h (fun _=>none) tA 0) tY 1,⟨#[]⟩⟩,⟨⟨[⟨tA,n,1,0⟩,⟨tY,n,2,0⟩],[],[]⟩,0,n+n⟩)) ((k5w hT hn _ _ noMk (by decide) (by show(0:Int)+n+n≤4096;omega)).trans ?_) ?_
  ·rw[z7f,z7f,show noMk.bits+n+n=n+n from by show(0:Int)+n+n=_;omega];rfl
  ·exact z1d hp rfl
 unfold z4b;rw[h]
theorem k0x:∃p,z4b fEx tM []=(⟨[⟨tA,2,1,0⟩,⟨tY,2,2,0⟩],[p],[]⟩,0):=j4f (T:=fun _=>none) rfl (.inr ⟨rfl,rfl⟩) (by decide)
theorem k0w:∃p,z4b fEx tM [(tNn,8)]=(⟨[⟨tA,8,1,0⟩,⟨tY,8,2,0⟩],[p],[]⟩,0):=by
 refine j4f (T:=z3h (fun _=>none) tNn 8) ?_ (.inl (by unfold z3h;rw[if_pos rfl])) (by decide);rw[z9k];unfold z0o;rw[if_pos (show((fun _=>none:ByteArray→Option Int) tNn=none∧∃b,b∈mMm.params∧b.name=tNn) from⟨rfl,⟨tNn,xZ 2⟩,List.mem_singleton.2 rfl,rfl⟩)];simp only[bind,Except.bind];rw[if_pos (by decide)];rfl
theorem k0v:z4b fEx tM [(tMm,1)]=(⟨[],[],[]⟩,82):=by
 have h:z6a fEx tM [(tMm,1)]=.error 82:=by
  unfold z6a;rw[if_neg (by rw[q0t];decide),q6z];simp only;rw[z9k];unfold z0o;rw[if_neg (show¬((fun _=>none:ByteArray→Option Int) tMm=none∧∃b,b∈mMm.params∧b.name=tMm) from fun⟨_,b,hb,he⟩=>by
   rw[List.mem_singleton.1 hb] at he;exact absurd (congrArg ByteArray.data he) (by decide))]
  rfl
 unfold z4b;rw[h]
theorem k4o:z4b fEx tXx []=(⟨[],[],[]⟩,71):=by
 have h:z6a fEx tXx []=.error 71:=by
  unfold z6a;rw[if_neg (by rw[q0t];decide),k4h]
 unfold z4b;rw[h]
def tUA:ByteArray:=⟨#[117,46,97]⟩
def tUY:ByteArray:=⟨#[117,46,121]⟩
def tUd:ByteArray:=⟨#[117,46]⟩
theorem k5d:z2w (fun nm=>∃p,p∈mMm.ports∧p.name=nm) 81 (fun x=>(.ok x:Rs X)) iIn.binds (fun _=>none)=.ok (z3h (z3h (fun _=>none) tA (xZ 1)) tY (xNm tY)):=by
 rw[show iIn.binds=[⟨tA,xZ 1⟩,⟨tY,xNm tY⟩] from rfl,z2w];unfold z0o;rw[if_pos (show((fun _=>none:ByteArray→Option X) tA=none∧∃p,p∈mMm.ports∧p.name=tA) from⟨rfl,⟨tA,false,xNm tNn⟩,List.mem_cons_self ..,rfl⟩)];simp only[bind,Except.bind];rw[z2w];unfold z0o;rw[if_pos (show(z3h (fun _=>none) tA (xZ 1) tY=none∧∃p,p∈mMm.ports∧p.name=tY) from⟨by unfold z3h;rw[if_neg k9y],⟨tY,true,xNm tNn⟩,y1r _ (y2d.2 rfl),rfl⟩)];rfl
theorem k4p:∃p q r,z4b fEx tTt []=(⟨[⟨tY,2,2,0⟩,⟨tUA,2,3,0⟩,⟨tUY,2,3,0⟩],[p,q,r],[]⟩,0):=by
 have hE1:(z3h (z3h (fun _=>none) tA (xZ 1)) tY (xNm tY)) tA=some (xZ 1):=by unfold z3h;rw[if_neg k2f,if_pos rfl]
 have hE2:(z3h (z3h (fun _=>none) tA (xZ 1)) tY (xNm tY)) tY=some (xNm tY):=by unfold z3h;rw[if_pos rfl]
 obtain⟨E,hE⟩:∃E,E=z3h (z3h (fun _=>none) tA (xZ 1)) tY (xNm tY):=⟨_,rfl⟩;have hbd:=k5d;rw[←hE] at hbd hE1 hE2
 obtain⟨q,hq⟩:=j9p (z6o fEx 1) ⟨[(tNn,2)],z3h (z3h (fun _=>none) tA 1) tY 2,tUd⟩ ⟨⟨[⟨tY,2,2,0⟩,⟨tUA,2,3,0⟩,⟨tUY,2,3,0⟩],[⟨false,[.mk 1 1 1 0 [q2x 0 1] []]⟩],[]⟩,3,6⟩ (a:=1) (b:=2) (n:=2)
  (by show(if tNn=tA then some (2:Int) else none)=none;rw[if_neg (z4v (by decide))]) (by show(if tNn=tNn then some (2:Int) else none)=_;rw[if_pos rfl])
  (by show(if tY=tA then some (2:Int) else if tA=tA then some 1 else none)=_;rw[if_neg k2f,if_pos rfl]) (by show(if tY=tY then some (2:Int) else if tA=tY then some 1 else none)=_;rw[if_pos rfl])
  (by decide) (by decide) rfl (by show(3:Int)+5≤_;decide) (by show(1:Nat)<_;decide)
 refine⟨⟨false,[.mk 1 1 1 0 [q2x 0 1] []]⟩,q,⟨false,[j4n (0,1,0) (.mk 2 0 0 2 1 0 0 [])]⟩,?_⟩;have hi:z6o fEx 2 iIn ⟨[],z3h (fun _=>none) tY 0,⟨#[]⟩⟩ ⟨⟨[⟨tY,2,2,0⟩],[],[]⟩,1,2⟩=.ok ⟨⟨[⟨tY,2,2,0⟩,⟨tUA,2,3,0⟩,⟨tUY,2,3,0⟩],[⟨false,[.mk 1 1 1 0 [q2x 0 1] []]⟩,q,⟨false,[j4n (0,1,0) (.mk 2 0 0 2 1 0 0 [])]⟩],[]⟩,10,6⟩:=by
  rw[z6o,show iIn.of=tM from rfl,q6z,Option.getD_some,show iIn.params=[] from rfl];refine z1d (x:=fun _=>none) (by rw[z2w]) ?_;refine z1d hbd ?_;refine z1d (x:=()) ?_ ?_
  ·rw[show mMm.ports=[⟨tA,false,xNm tNn⟩,⟨tY,true,xNm tNn⟩] from rfl,z9q];refine z1d (z8a (.inl (by simp only[hE1];rfl))) ?_;rw[z9q];refine z1d (z8a (.inl (by simp only[hE2];rfl))) ?_;rw[z9q]
  have hpa:(⟨#[]⟩:ByteArray)++iIn.name++tDot=tUd:=by rw[z7f];decide
  refine z1d (x:=(⟨[(tNn,2)],z3h (z3h (fun _=>none) tA 1) tY 2,tUd⟩,⟨⟨[⟨tY,2,2,0⟩,⟨tUA,2,3,0⟩,⟨tUY,2,3,0⟩],[],[]⟩,1,6⟩)) ((k5w (n:=2) (.inr ⟨rfl,rfl⟩) (by decide) _ _ _ (by show(1:Nat)+2≤512;decide) (by show(2:Int)+2+2≤4096;decide)).trans ?_) ?_
  ·rw[hpa,show tUd++tA=tUA from by decide,show tUd++tY=tUY from by decide];rfl
  have e2:(z3h (z3h (fun _=>none) tA (1:Int)) tY 2) tA=some 1:=by unfold z3h;rw[if_neg k2f,if_pos rfl]
  have e3:(z3h (z3h (fun _=>none) tA (1:Int)) tY 2) tY=some 2:=by unfold z3h;rw[if_pos rfl]
  refine z1d (x:=⟨⟨[⟨tY,2,2,0⟩,⟨tUA,2,3,0⟩,⟨tUY,2,3,0⟩],[⟨false,[.mk 1 1 1 0 [q2x 0 1] []]⟩],[]⟩,3,6⟩) ?_ ?_
  ·rw[show mMm.ports=[⟨tA,false,xNm tNn⟩,⟨tY,true,xNm tNn⟩] from rfl,q4z,if_neg (by decide)];refine z1d (x:=⟨⟨[⟨tY,2,2,0⟩,⟨tUA,2,3,0⟩,⟨tUY,2,3,0⟩],[],[]⟩,2,6⟩) (q2s (by decide)) ?_;refine z1d (x:=(q2x 0 1,⟨⟨[⟨tY,2,2,0⟩,⟨tUA,2,3,0⟩,⟨tUY,2,3,0⟩],[],[]⟩,3,6⟩)) ?_ ?_
   ·rw[hE1];exact z1d (k9m _ _ 1) (z1d (q2s (by decide)) rfl)
   ·simp only;rw[e2];refine z1d (x:=⟨⟨[⟨tY,2,2,0⟩,⟨tUA,2,3,0⟩,⟨tUY,2,3,0⟩],[⟨false,[.mk 1 1 1 0 [q2x 0 1] []]⟩],[]⟩,3,6⟩) (q1j (by decide)) ?_;rw[q4z,if_pos rfl,q4z]
  refine z1d (by rw[show mMm.items=[iAs] from rfl];exact hq) ?_;rw[show mMm.ports=[⟨tA,false,xNm tNn⟩,⟨tY,true,xNm tNn⟩] from rfl,z5p];simp only[hE1];rw[z5p];simp only[hE2];refine z1d (x:=⟨⟨[⟨tY,2,2,0⟩,⟨tUA,2,3,0⟩,⟨tUY,2,3,0⟩],[⟨false,[.mk 1 1 1 0 [q2x 0 1] []]⟩,q],[]⟩,9,6⟩) (q2s (show(8:Int)+1≤65536 by decide)) ?_;refine z1d (x:=(0,1,0)) (q3q (a:=0) (by show(if tY=tY then some (0:Int) else none)=_;rw[if_pos rfl]) (show(1:Int)≤2 by decide) (show z7p false 2=true by decide)) ?_;refine z1d (x:=⟨⟨[⟨tY,2,2,0⟩,⟨tUA,2,3,0⟩,⟨tUY,2,3,0⟩],[⟨false,[.mk 1 1 1 0 [q2x 0 1] []]⟩,q],[]⟩,10,6⟩) (q2s (show(9:Int)+1≤65536 by decide)) ?_;rw[e3];refine z1d (q1j (show(2:Nat)<1024 by decide)) ?_;rw[z5p];rfl
 have h:z6a fEx tTt []=.ok ⟨[⟨tY,2,2,0⟩,⟨tUA,2,3,0⟩,⟨tUY,2,3,0⟩],[⟨false,[.mk 1 1 1 0 [q2x 0 1] []]⟩,q,⟨false,[j4n (0,1,0) (.mk 2 0 0 2 1 0 0 [])]⟩],[]⟩:=by
  unfold z6a;rw[if_neg (by rw[q0t];decide),k4i];refine z1d (x:=fun _=>none) rfl ?_;refine z1d (x:=(⟨[],z3h (fun _=>none) tY 0,⟨#[]⟩⟩,⟨⟨[⟨tY,2,2,0⟩],[],[]⟩,0,2⟩)) ?_ ?_
  ·refine z1d (x:=⟨[],fun _=>none,⟨#[]⟩⟩) rfl ?_;refine z1d (j2k (k8b (by decide) _) (by decide)) ?_;refine z1d (q3t (by decide) (by decide)) ?_;show Except.ok _=_;rw[z7f];rfl
  ·refine z1d (x:=(⟨[],z3h (fun _=>none) tY 0,⟨#[]⟩⟩,⟨⟨[⟨tY,2,2,0⟩,⟨tUA,2,3,0⟩,⟨tUY,2,3,0⟩],[⟨false,[.mk 1 1 1 0 [q2x 0 1] []]⟩,q,⟨false,[j4n (0,1,0) (.mk 2 0 0 2 1 0 0 [])]⟩],[]⟩,10,6⟩)) ?_ rfl;rw[show mTt.items=[iIn] from rfl,z1r];refine z1d (x:=⟨⟨[⟨tY,2,2,0⟩],[],[]⟩,1,2⟩) (q2s (by decide)) ?_;refine z1d (x:=(⟨[],z3h (fun _=>none) tY 0,⟨#[]⟩⟩,⟨⟨[⟨tY,2,2,0⟩,⟨tUA,2,3,0⟩,⟨tUY,2,3,0⟩],[⟨false,[.mk 1 1 1 0 [q2x 0 1] []]⟩,q,⟨false,[j4n (0,1,0) (.mk 2 0 0 2 1 0 0 [])]⟩],[]⟩,10,6⟩)) ?_ (by rw[z1r]);have hi2:=hi;unfold iIn at hi2⊢;rw[z1m,if_neg (by decide),if_neg (by decide),if_neg (by decide),if_neg (by decide),if_neg (by decide),if_neg (by decide),if_pos rfl];exact z1d hi2 rfl
 unfold z4b;rw[h]
def FindG(l:List Sg)(s:ByteArray)(i:Int)(b:Bool):Prop:=b=true∧(∃k:Nat,∃h:k<l.length,i=k∧l[k].name=s∧∀j (h':j<l.length),j<k→¬l[j].name=s)∨b=false∧i=0∧∀g,g∈l→¬g.name=s
theorem FindG.one{l:List Sg}{s:ByteArray}{i j:Int}{b c:Bool}(h:FindG l s i b)(k:FindG l s j c):i=j∧b=c:=by
 rcases h with⟨rfl,n,hn,rfl,h1,h2⟩|⟨rfl,rfl,h1⟩<;>rcases k with⟨rfl,m,hm,rfl,k1,k2⟩|⟨rfl,rfl,k1⟩
 ·refine⟨?_,rfl⟩;by_cases h:n<m
  ·exact absurd h1 (k2 n hn h)
  ·by_cases h':m<n
   ·exact absurd k1 (h2 m hm h')
   ·omega
 ·exact absurd h1 (k1 _ (y1l hn))
 ·exact absurd k1 (h1 _ (y1l hm))
 ·exact⟨rfl,rfl⟩
def z2e(k:Int):Nat→List Sg→List Int
 |_,[]=>[]
 |n,g::r=>if g.kind=k then(n:Int)::z2e k (n+1) r else z2e k (n+1) r
theorem q0j(k:Int):∀(a:List Sg) (n:Nat) (b:List Sg),z2e k n (a++b)=z2e k n a++z2e k (n+a.length) b
 |[],n,b=>rfl
 |g::a,n,b=>by
  have ih:=q0j k a (n+1) b;have e:n+(g::a).length=n+1+a.length:=by simp only[List.length_cons];omega
  rw[e];show(if g.kind=k then(n:Int)::z2e k (n+1) (a++b) else z2e k (n+1) (a++b))=(if g.kind=k then(n:Int)::z2e k (n+1) a else z2e k (n+1) a)++_;by_cases h:g.kind=k
  ·rw[if_pos h,if_pos h,ih];rfl
  ·rw[if_neg h,if_neg h,ih]
theorem q4d{k:Int}{l:List Sg}{i:Nat}(h:i<l.length):z2e k 0 (l.take (i+1))=if l[i].kind=k then z2e k 0 (l.take i)++[(i:Int)] else z2e k 0 (l.take i):=by
 rw[List.take_succ_eq_append_getElem h,q0j,List.length_take,Nat.min_eq_left (Nat.le_of_lt h),Nat.zero_add];show _++(if l[i].kind=k then [(i:Int)] else [])=_;by_cases hk:l[i].kind=k
 ·rw[if_pos hk,if_pos hk]
 ·rw[if_neg hk,if_neg hk,List.append_nil]
theorem z8v(k:Int):∀(l:List Sg) (n:Nat),(z2e k n l).length≤l.length
 |[],_=>y1j _
 |g::r,n=>by
  have:=z8v k r (n+1);show(if g.kind=k then(n:Int)::z2e k (n+1) r else z2e k (n+1) r).length≤_;split<;>simp only[List.length_cons]<;>omega
end Go.Proofs.YtlfmlodanoolhaaGreatDoor
namespace Go.Proofs.YtlfmlodanoolhaaGreatDoor
open Go Go.RowKit Go.Proofs.Tryz
attribute [local go_sem] z0f
abbrev sgC(x:Sg):List Value:=[.string x.name,.int .i64 x.w,.int .i64 x.kind,.int .u64 x.init]
theorem Sl.extG{w w':World}{B:Nat}{l:List Sg}{v:Value}(h:Sl RSg w B 4 l v)(hx:Ext w w')(hB:B≤w.heap.size):Sl RSg w' B 4 l v:=
 h.keep (fun p hp=>hx.cell (by omega)) (y1j _) (fun _ _ _ h=>h)
theorem q6q{w:World}{B:Nat}{l:List Sg}{v:Value}(h:Sl RSg w B 4 l v):∃a cap,v=.slice a l.length cap∧∀k (hk:k<l.length),∃b o,a=some ⟨b,o,none⟩∧b<B∧Cells w b (o+k*4) (sgC l[k]):=by
 obtain⟨a,cap,rfl,-,hr⟩:=h;refine⟨a,cap,rfl,fun k hk=>?_⟩;obtain⟨b,o,cs,ha,hb,-,hC,-,hR⟩:=hr k hk;exact⟨b,o,ha,hb,by rw[←(show cs=sgC l[k] from hR)];exact hC⟩
theorem j5x(fk:Nat)(hcall:Enters Tryz.prog fk)(P:Sg→Prop)(caps:Value)(B:Nat)(l:List Sg)(w:World)
 (hf:∀x,x∈l→∀(w':World),Ext w w'→Calls Tryz.prog fk #[.agg #[.string x.name,.int .i64 x.w,.int .i64 x.kind,.int .u64 x.init],caps] w' fun e w''=>e=.returned (.bool (yes (P x)))∧Ext w' w'')
 (v:Value) (hS:Sl RSg w B 4 l v) (hB:B≤w.heap.size) (hsz:l.length≤1000000000):
 Calls Tryz.prog 51 #[v,.func (.func fk) #[] #[caps]] w fun e w'=>Ext w w'∧
  ((∃i,∃h:i<l.length,P l[i]∧(∀j,∀h':j<l.length,j<i→¬P l[j])∧e=.returned (.int .i64 i))∨((∀x,x∈l→¬P x)∧e=.returned (.int .i64 (-1)))):=by
 obtain⟨a,cap,rfl,hrow⟩:=q6q hS;have HROW:=Hd hrow;have HF:=Hd hf;have hcf:=hcall.o;clear hf hcall hrow hS;go_enter func51,ntmps51;go_wp2_with fail
 go_loopw [8] (fun i wr=>∃k:Nat,k≤l.length∧i=.int .i64 k∧(∀j,∀h':j<l.length,j<k→¬P l[j])∧Ext w wr) (fun i _=>l.length - (intOf i).toNat)
 case atStart=>exact⟨0,y1p _,rfl,fun j h' hj=>absurd hj (by omega),y1g _⟩
 case round=>
  obtain⟨k,hk,rfl,hpre,hx⟩:=hrel;have HP:=Hd hpre;clear hpre;by_cases hlt:k<l.length
  ·have hfk:=Hd (HF.o l[k] (y1l hlt));obtain⟨b,o,rfl,hbB,hC⟩:=HROW.o k hlt;obtain⟨d0,d1,d2,d3⟩:=(hC.ext hx).get4;have HX:=Hd hx;have HQ:=Hd (show∀j,∀h':j<l.length,j<k+1→j≠k→¬P l[j] from fun j h' hj hn=>HP.o j h' (by omega));have HK:∃g:Sg,g=l[k]:=⟨_,rfl⟩;obtain⟨g,hg⟩:=HK;rw[←hg] at hfk d0 d1 d2 d3;have HG:=Hd hg;clear hC HF hx hg;go_wp2_with fail
   refine(hfk.o _ HX.o).mono ?_;rintro e w1 ⟨rfl,hy⟩;have hx9:=Hd (HX.o.trans hy);by_cases hq:P g
   ·rw[yes_iff.2 hq];have FIN:=Hd (show∃i,∃h:i<l.length,P l[i]∧(∀j,∀h':j<l.length,j<i→¬P l[j])∧(k:Int)=i from⟨k,hlt,by rw[←HG.o];exact hq,HP.o,rfl⟩);clear hq hy hfk d0 d1 d2 d3;go_wp2_with fail
    go_ret;obtain⟨i,h,h1,h2,h3⟩:=FIN.o;exact⟨hx9.o,.inl ⟨i,h,h1,h2,by rw[h3];rfl⟩⟩
   ·rw[yes_no.2 hq];have HN:=Hd (show∀j,∀h':j<l.length,j<k+1→¬P l[j] from fun j h' hj=>if e:j=k then by subst e;rw[←HG.o];exact hq else HP.o j h' (by omega));clear hq hy hfk d0 d1 d2 d3;go_wp2_with fail
    go_roundw;case rel=>exact⟨k+1,by omega,by go_num,HN.o,hx9.o⟩
    case measure=>simp[intOf];omega
  ·have hkl:k=l.length:=by omega
   subst hkl;have FIN:=Hd (show∀x,x∈l→¬P x from fun x hx=>by obtain⟨j,hj,rfl⟩:=List.getElem_of_mem hx;exact HP.o j hj hj);go_wp2_with fail
   go_ret;exact⟨hx,.inr ⟨FIN.o,rfl⟩⟩
theorem q9x:Enters Tryz.prog 52:=⟨fun _ _=>by kernel_rfl⟩
theorem q9l(x:Sg)(s:ByteArray)(p:Addr)(w:World)(hp:w.cell? p=some (.string s))(hlt:p.block<w.heap.size):
 Calls Tryz.prog 52 #[.agg #[.string x.name,.int .i64 x.w,.int .i64 x.kind,.int .u64 x.init],.pointer (some p)] w fun e w'=>e=.returned (.bool (yes (x.name=s)))∧Ext w w':=by
 obtain⟨W1,e1,hV1,hx1,hz1,c0,c1,c2,c3⟩:=q2c w (.string x.name) (.int .i64 x.w) (.int .i64 x.kind) (.int .u64 x.init) 57;have hp2:e1.w.cell? p=some (.string s):=((hx1.trans e1.ext).cell hlt).trans hp;have HX:=Hd (hx1.trans e1.ext);clear hx1 hz1 hp hlt;obtain⟨nm,wd,kd,ini⟩:=x;simp only at hV1 c0 c1 c2 c3⊢;by_cases h:nm=s
 ·rw[yes_iff.2 h];subst h;go_enter func52,ntmps52
  go_wp2
  go_ret;exact⟨rfl,HX.o⟩
 ·rw[yes_no.2 h];have hne:=q1c h;clear h;go_enter func52,ntmps52
  go_wp2
  go_ret;exact⟨rfl,HX.o⟩
theorem j0c(B:Nat)(l:List Sg)(s:ByteArray)(w:World)(vs vp vc:Value)(hS:Sl RSg w B 4 l vs)(op:vp.oneCell'=true)(oc:vc.oneCell'=true)(hB:B≤w.heap.size)(hsz:l.length≤1000000000):
 Calls Tryz.prog 22 #[.agg #[vs,vp,vc],.string s] w fun e w'=>∃i b,e=.returned (.tuple #[.int .i64 i,.bool b])∧FindG l s i b∧Ext w w':=by
 have HS:=Hd hS;obtain⟨a,cap,rfl,-⟩:=q6q hS;obtain⟨W1,e1,hV1,hx1,-,a0,a1,a2⟩:=k9v w (.slice a l.length cap) vp vc 50;obtain⟨W2,e2,hV2,hx2,hz2,b0⟩:=k5b e1.w (.string s) 9;have q12:=e1.ext.trans hx2;have q02:=hx1.trans q12;have a0:=z0k a0 q12;have Q02:=Hd (q02.trans e2.ext);have hlt1:e1.w.heap.size<W2.heap.size:=by rw[hz2];omega
 have hmf:=@hmf_ Tryz.prog
 have KI:=Hd (j5x 52 q9x (fun m=>m.name=s) (.pointer (some ⟨e1.w.heap.size,0,none⟩)) B l e2.w
  (fun x hx w' hw=>q9l x s ⟨e1.w.heap.size,0,none⟩ w' (b0 ⟨w',e2.ext.trans hw⟩) (y1m hlt1 (e2.ext.trans hw).size))
  (.slice a l.length cap) (HS.o.extG Q02.o hB) (y1k hB Q02.o.size) hsz)
 clear hS hx1 hx2 hz2 q12 q02 hlt1 HS b0 a1 a2;go_enter func22,ntmps22;go_wp2_with fail
 go_at_call 51;refine KI.o.mono ?_;rintro _ w1 ⟨hx,(⟨i,h,h1,h2,rfl⟩|⟨h1,rfl⟩)⟩
 ·have hi0:decide ((0:Int)≤(i:Int))=true:=decide_eq_true (by omega);have hmx:max (i:Int) 0=(i:Int):=by omega
  have FIN:=Hd (show FindG l s i true∧Ext w w1 from⟨.inl ⟨rfl,i,h,rfl,h1,h2⟩,Q02.o.trans hx⟩);clear h1 h2 hx KI;go_wp2_with fail
  go_ret2;exact⟨_,_,rfl,FIN.o⟩
 ·have FIN:=Hd (show FindG l s 0 false∧Ext w w1 from⟨.inr ⟨rfl,rfl,h1⟩,Q02.o.trans hx⟩);clear h1 hx KI;go_wp2_with fail
  go_ret2;exact⟨_,_,rfl,FIN.o⟩
theorem j5b(B:Nat)(l:List Sg)(s:ByteArray)(w:World)(vs vp vc:Value)(hS:Sl RSg w B 4 l vs)(op:vp.oneCell'=true)(oc:vc.oneCell'=true)(hB:B≤w.heap.size)(hsz:l.length≤1000000000):
 Calls Tryz.prog 23 #[.agg #[vs,vp,vc],.string s] w fun e w'=>∃i b,e=.returned (.tuple #[.int .i64 i,.bool b])∧FindG l s i b∧Ext w w':=by
 have HS:=Hd hS;obtain⟨a,cap,rfl,hrow⟩:=q6q hS;have HROW:=Hd hrow;obtain⟨W1,e1,hV1,hx1,-,a0,a1,a2⟩:=k9v w (.slice a l.length cap) vp vc 50;have Q1:=Hd hx1;clear hS hx1 a1 a2 hrow;go_enter func23,ntmps23;go_wp2_with fail
 go_loopw [6] (fun i wr=>∃k:Nat,k≤l.length∧i=.int .i64 k∧(∀j,∀h':j<l.length,j<k→¬l[j].name=s)∧Ext e1.w wr) (fun i _=>l.length - (intOf i).toNat)
 case atStart=>exact⟨0,y1p _,rfl,fun j h' hj=>absurd hj (by omega),y1g _⟩
 case round=>
  obtain⟨k,hk,rfl,hpre,hxw⟩:=hrel;have HXW:=Hd (Q1.o.trans (e1.ext.trans hxw));have HX1:=Hd hxw;obtain⟨er,rfl⟩:=y1h (e1.ext.trans hxw);have HP:=Hd hpre;clear hxw;clear hpre;by_cases hlt:k<l.length
  ·obtain⟨b,o,rfl,hbB,hC⟩:=HROW.o k hlt;obtain⟨d0,d1,d2,d3⟩:=(hC.ext HXW.o).get4;obtain⟨g,hg⟩:∃g:Sg,g=l[k]:=⟨_,rfl⟩;rw[←hg] at d0 d1 d2 d3;have HG:=Hd hg;clear hC hg d1 d2 d3;obtain⟨nm,wd,kd,ini⟩:=g;simp only at d0;by_cases hq:nm=s
   ·have FIN:=Hd (show FindG l s k true from .inl ⟨rfl,k,hlt,rfl,by rw[←HG.o];exact hq,HP.o⟩);subst hq;clear HG;go_wp2_with fail
    go_ret2;exact⟨_,_,rfl,FIN.o,HXW.o⟩
   ·have HN:=Hd (show∀j,∀h':j<l.length,j<k+1→¬l[j].name=s from fun j h' hj=>if e:j=k then by subst e;rw[←HG.o];exact hq else HP.o j h' (by omega));have hne:=q1c hq;clear hq HG;go_wp2_with fail
    go_roundw;case rel=>exact⟨k+1,by omega,by go_num,HN.o,HX1.o⟩
    case measure=>simp[intOf];omega
  ·have hkl:k=l.length:=by omega
   subst hkl;have FIN:=Hd (show FindG l s 0 false from .inr ⟨rfl,rfl,fun x hx=>by obtain⟨j,hj,rfl⟩:=List.getElem_of_mem hx;exact HP.o j hj hj⟩);go_wp2_with fail
   go_ret2;exact⟨_,_,rfl,FIN.o,HXW.o⟩
def RZ(z:Int)(cs:List Value):Prop:=cs=[.int .i64 z]
theorem j9v:(Tryz.prog.info? 3).map (fun i=>(i.zero,i.size,i.bytes))=some (some (.int .i64 0),1,8):=by kernel_rfl
theorem OwnL.low{α:Type}{R:α→List Value→Prop}{base base':Nat}{e:TypeId}{sz:Nat}{l:List α}{v:Value}{X:World}(h:OwnL R base e sz l v X)(hb:base'≤base):OwnL R base' e sz l v X:=by
 obtain⟨xs,h1,h2⟩:=h.ex;refine⟨xs,⟨h1.1,?_⟩,h2⟩;rcases h1.2 with h3|⟨g,cap,cur,h3,h4,h5⟩
 ·exact .inl h3
 ·exact .inr ⟨g,cap,cur,h3,y1k hb h4,h5⟩
theorem Blk.flat_one{w:World}{g:Nat}{t:TypeId}{v:Value}(h:Blk w g t [v])(ho:v.oneCell'=true):Flat w 1 (some ⟨g,0,none⟩) 1 [v]:=
 ⟨rfl,(by intro u hu;rw[List.mem_singleton.1 hu];exact ho),fun _=>⟨_,_,rfl,h.cells⟩⟩
theorem q6e(B:Nat)(l:List Sg)(kd:Int)(w:World)(vs vp vc:Value)(hS:Sl RSg w B 4 l vs)(op:vp.oneCell'=true)(oc:vc.oneCell'=true)(hB:B≤w.heap.size)(hsz:l.length≤1000000000):
 Calls Tryz.prog 24 #[.agg #[vs,vp,vc],.int .i64 kd] w fun e w'=>∃v,e=.returned v∧Sl RZ w' w'.heap.size 1 (z2e kd 0 l) v∧Ext w w':=by
 obtain⟨a,cap,rfl,hrow⟩:=q6q hS;have HROW:=Hd hrow;obtain⟨W1,hW1,hx1,hb1⟩:=k1n w (.slice a l.length cap) vp vc 50;have hV1:=hW1.symm;have s1:w.heap.size<W1.heap.size:=hb1.lt;have Q1:=Hd hx1;have HB1:=Hd hb1;have c0:=hb1.cell 0;simp only[List.getElem?_cons_zero] at c0;clear hS hrow hW1 hx1 hb1;go_enter func24,ntmps24;go_wp2_with fail
 go_loopw [4,10] (fun out i wr=>∃k:Nat,∃o,k≤l.length∧i=.int .i64 k∧o=out∧OwnL RZ (w.heap.size+1) 3 1 (z2e kd 0 (l.take k)) o wr∧Ext w wr∧Blk wr w.heap.size 50 [.slice a l.length cap,vp,vc]) (fun _ i _=>l.length - (intOf i).toNat)
 case atStart=>exact⟨0,_,y1p _,rfl,rfl,OwnL.none_,Q1.o,HB1.o⟩
 case round=>
  obtain⟨k,o,hk,rfl,rfl,ho,hx,hb⟩:=hrel;have c0:=hb.cell 0;simp only[List.getElem?_cons_zero] at c0;have HO:=Hd ho;have HX:=Hd hx;have HB:=Hd hb;have hsr:w.heap.size+1≤wr.heap.size:=hb.lt;clear ho hb hx;by_cases hlt:k<l.length
  ·obtain⟨b,p,rfl,hbB,hC⟩:=HROW.o k hlt;obtain⟨d0,d1,d2,d3⟩:=(hC.ext HX.o).get4;have hst:=q4d (k:=kd) hlt;have hle:(z2e kd 0 (l.take k)).length≤1000000000:=by
    have:=z8v kd (l.take k) 0;rw[List.length_take] at this;omega
   obtain⟨g,hg⟩:∃g:Sg,g=l[k]:=⟨_,rfl⟩;rw[←hg] at d0 d1 d2 d3 hst;have HST:=Hd hst;clear hC hg hst;obtain⟨nm,wd,kg,ini⟩:=g;simp only at d0 d1 d2 d3 HST;obtain⟨W3,hW3,hx3,hb3⟩:=q2d wr (.string nm) (.int .i64 wd) (.int .i64 kg) (.int .u64 ini) 57;have hV3:=hW3.symm;obtain⟨f0,f1,f2,f3⟩:=hb3.get4;have HX3:=Hd hx3;clear hW3 hx3 hb3;obtain⟨oa,oc',hof⟩:=HO.o.form;generalize hlk:z2e kd 0 (l.take k)=lk at*;clear hlk;subst hof;by_cases hq:kg=kd
   ·have HS2:=Hd (HST.o.trans (if_pos hq));have hqt:(kg==kd)=true:=beq_iff_eq.2 hq;clear HST;subst hq;obtain⟨W4,hW4,hx4,hb4⟩:=z4w W3 (.int .i64 k) 3;have hV4:=hW4.symm;have O4:=Hd (HO.o.later (HX3.o.trans hx4));have X4:=Hd (HX.o.trans (HX3.o.trans hx4));have B4:=Hd (HB.o.ext (HX3.o.trans hx4));have HF4:=Hd (show Flat W4 1 (some ⟨W3.heap.size,0,none⟩) 1 [.int .i64 k] from hb4.flat_one rfl);have HL4:=Hd (show Fl RZ 1 [(k:Int)] [.int .i64 k] from Fl.one_ rfl (by intro u hu;rw[List.mem_singleton.1 hu];rfl) rfl);have hs4:w.heap.size+1≤W4.heap.size:=y1k hsr (HX3.o.trans hx4).size;clear hW4 hx4 hb4;go_wp2_with (at_builtin;refine z2x rfl _ _ 77 rfl (w.heap.size+1) 3 _ 1 8 j9v underlying77 rfl (by decide) (by decide) lk [(k:Int)] (.slice oa lk.length oc') rfl O4.o _ 1 _ rfl HF4.o HL4.o hle (by simp) hs4 ?_;intro v5 w5 hown5 hg5 hlt5;have X5:=Hd (X4.o.grown hg5 (fun b hb=>by have:=hlt5 b hb;omega));have O5:=Hd hown5;have B5:=Hd (q6g B4.o hg5 (fun b hb=>by have:=hlt5 b hb;omega));clear hown5 hg5 hlt5)
    go_roundw;case rel=>exact⟨k+1,_,by omega,by go_num,rfl,by rw[HS2.o];exact O5.o,X5.o,B5.o⟩
    case measure=>simp[intOf];omega
   ·have HS2:=Hd (HST.o.trans (if_neg hq));have hqf:(kg==kd)=false:=beq_eq_false_iff_ne.2 hq;clear HST hq;go_wp2_with fail
    go_roundw;case rel=>exact⟨k+1,_,by omega,by go_num,rfl,by rw[HS2.o];exact HO.o.later HX3.o,HX.o.trans HX3.o,HB.o.ext HX3.o⟩
    case measure=>simp[intOf];omega
  ·have hkl:k=l.length:=by omega
   subst hkl;have FIN:=Hd (show Sl RZ wr wr.heap.size 1 (z2e kd 0 l) o from by have:=HO.o.sl (by decide);rwa[List.take_length] at this);go_wp2_with fail
   go_ret;exact⟨_,rfl,FIN.o,HX.o⟩
theorem j5a(B:Nat)(l:List Sg)(kd:Int)(w:World)(vs vp vc:Value)(hS:Sl RSg w B 4 l vs)(op:vp.oneCell'=true)(oc:vc.oneCell'=true)(hB:B≤w.heap.size)(hsz:l.length≤1000000000):
 Calls Tryz.prog 25 #[.agg #[vs,vp,vc],.int .i64 kd] w fun e w'=>∃v,e=.returned v∧Sl RZ w' w'.heap.size 1 (z2e kd 0 l) v∧Ext w w':=by
 obtain⟨a,cap,rfl,hrow⟩:=q6q hS;have HROW:=Hd hrow;obtain⟨W1,hW1,hx1,hb1⟩:=k1n w (.slice a l.length cap) vp vc 50;have hV1:=hW1.symm;have s1:w.heap.size<W1.heap.size:=hb1.lt;have Q1:=Hd hx1;have HB1:=Hd hb1;obtain⟨W2,hW2⟩:∃W2,W2=W1.alloc (.cells #[] 3):=⟨_,rfl⟩;have hV2:=hW2.symm;have X2:=Hd (show Ext w W2 by rw[hW2];exact Q1.o.trans (y1v _ _));have B2:=Hd (show Blk W2 w.heap.size 50 [.slice a l.length cap,vp,vc] by rw[hW2];exact hb1.ext (y1v _ _));have O2:=Hd (show OwnL RZ (w.heap.size+1) 3 1 [] (.slice (some ⟨W1.heap.size,0,none⟩) 0 0) W2 by rw[hW2];exact OwnL.low (OwnL.new W1 3) (by omega));clear hW2;clear hS hrow hW1 hx1 hb1;go_enter func25,ntmps25;go_wp2_with fail
 go_loopw [5,6] (fun out i wr=>∃k:Nat,∃o,k≤l.length∧i=.int .i64 k∧o=out∧OwnL RZ (w.heap.size+1) 3 1 (z2e kd 0 (l.take k)) o wr∧Ext w wr∧Blk wr w.heap.size 50 [.slice a l.length cap,vp,vc]) (fun _ i _=>l.length - (intOf i).toNat)
 case atStart=>exact⟨0,_,y1p _,rfl,rfl,O2.o,X2.o,B2.o⟩
 case round=>
  obtain⟨k,o,hk,rfl,rfl,ho,hx,hb⟩:=hrel;have c0:=hb.cell 0;simp only[List.getElem?_cons_zero] at c0;have HO:=Hd ho;have HX:=Hd hx;have HB:=Hd hb;have hsr:w.heap.size+1≤wr.heap.size:=hb.lt;clear ho hb hx;by_cases hlt:k<l.length
  ·obtain⟨b,p,rfl,hbB,hC⟩:=HROW.o k hlt;obtain⟨d0,d1,d2,d3⟩:=(hC.ext HX.o).get4;have hst:=q4d (k:=kd) hlt;have hle:(z2e kd 0 (l.take k)).length≤1000000000:=by
    have:=z8v kd (l.take k) 0;rw[List.length_take] at this;omega
   obtain⟨g,hg⟩:∃g:Sg,g=l[k]:=⟨_,rfl⟩;rw[←hg] at d0 d1 d2 d3 hst;have HST:=Hd hst;clear hC hg hst;obtain⟨nm,wd,kg,ini⟩:=g;simp only at d0 d1 d2 d3 HST;skip;obtain⟨oa,oc',hof⟩:=HO.o.form;generalize hlk:z2e kd 0 (l.take k)=lk at*;clear hlk;subst hof;by_cases hq:kg=kd
   ·have HS2:=Hd (HST.o.trans (if_pos hq));have hqt:(kg==kd)=true:=beq_iff_eq.2 hq;clear HST;subst hq;obtain⟨W4,hW4,hx4,hb4⟩:=z4w wr (.int .i64 k) 3;have hV4:=hW4.symm;have O4:=Hd (HO.o.later ((y1g wr).trans hx4));have X4:=Hd (HX.o.trans ((y1g wr).trans hx4));have B4:=Hd (HB.o.ext ((y1g wr).trans hx4));have HF4:=Hd (show Flat W4 1 (some ⟨wr.heap.size,0,none⟩) 1 [.int .i64 k] from hb4.flat_one rfl);have HL4:=Hd (show Fl RZ 1 [(k:Int)] [.int .i64 k] from Fl.one_ rfl (by intro u hu;rw[List.mem_singleton.1 hu];rfl) rfl);have hs4:w.heap.size+1≤W4.heap.size:=y1k hsr ((y1g wr).trans hx4).size;clear hW4 hx4 hb4;go_wp2_with (at_builtin;refine z2x rfl _ _ 77 rfl (w.heap.size+1) 3 _ 1 8 j9v underlying77 rfl (by decide) (by decide) lk [(k:Int)] (.slice oa lk.length oc') rfl O4.o _ 1 _ rfl HF4.o HL4.o hle (by simp) hs4 ?_;intro v5 w5 hown5 hg5 hlt5;have X5:=Hd (X4.o.grown hg5 (fun b hb=>by have:=hlt5 b hb;omega));have O5:=Hd hown5;have B5:=Hd (q6g B4.o hg5 (fun b hb=>by have:=hlt5 b hb;omega));clear hown5 hg5 hlt5)
    go_roundw;case rel=>exact⟨k+1,_,by omega,by go_num,rfl,by rw[HS2.o];exact O5.o,X5.o,B5.o⟩
    case measure=>simp[intOf];omega
   ·have HS2:=Hd (HST.o.trans (if_neg hq));have hqf:(kg==kd)=false:=beq_eq_false_iff_ne.2 hq;clear HST hq;go_wp2_with fail
    go_roundw;case rel=>exact⟨k+1,_,by omega,by go_num,rfl,by rw[HS2.o];exact HO.o.later (y1g wr),HX.o.trans (y1g wr),HB.o.ext (y1g wr)⟩
    case measure=>simp[intOf];omega
  ·have hkl:k=l.length:=by omega
   subst hkl;have FIN:=Hd (show Sl RZ wr wr.heap.size 1 (z2e kd 0 l) o from by have:=HO.o.sl (by decide);rwa[List.take_length] at this);go_wp2_with fail
   go_ret;exact⟨_,rfl,FIN.o,HX.o⟩
structure DsnR(w:World)(d:Dsn)(vs vp vc:Value):Prop where
 sig:Sl RSg w w.heap.size 4 d.sigs vs
 prc:SlT 70 (RPc w) w 2 d.procs vp
 chk:SlT 62 (RCk w) w 9 d.chks vc
theorem SlT.ext{α:Type}{T:TypeId}{R R':α→List Value→Prop}{w w':World}{sz:Nat}{l:List α}{v:Value}(h:SlT T R w sz l v)(hx:Ext w w')(hR:∀y,y∈l→∀cs,R y cs→R' y cs):SlT T R' w' sz l v:=by
 obtain⟨a,cap,hv,hc,hr⟩:=h;refine⟨a,cap,hv,hc,fun k hlt=>?_⟩;obtain⟨b,o,cs,ha,ht,hl,hC,h1,hR1⟩:=hr k hlt;have he:w'.heap[b]? =w.heap[b]? :=hx.heap ht.lt;exact⟨b,o,cs,ha,ht.of_eq he,hl,fun j u hu=>(y2b (a:=⟨b,o+k*sz+j,none⟩) he).trans (hC j u hu),h1,hR _ (y1l hlt) _ hR1⟩
theorem DsnR.ext{w w':World}{d:Dsn}{vs vp vc:Value}(h:DsnR w d vs vp vc)(hx:Ext w w'):DsnR w' d vs vp vc:=
 ⟨h.sig.keep (fun p hp=>hx.cell (by omega)) hx.size (fun _ _ _ h=>h),h.prc.ext hx (fun y _=>RPc.keep hx.kp y),h.chk.ext hx (fun y _=>RCk.keep hx.kp y)⟩
abbrev cNm(s:ByteArray):List Value:=[.int .i64 2,.string s,.int .i64 0,.int .i64 0,.int .u64 0,.slice none 0 0]
abbrev cZ(z:Int):List Value:=[.int .i64 1,.string ⟨#[]⟩,.int .i64 0,.int .i64 0,.int .u64 z,.slice none 0 0]
theorem z6k(s:ByteArray)(w:World):
 Calls Tryz.prog 20 #[.string s] w fun e w'=>e=.returned (.agg #[.int .i64 2,.string s,.int .i64 0,.int .i64 0,.int .u64 0,.slice none 0 0])∧Ext w w':=by
 go_enter func20,ntmps20
 go_wp2
 refine bodyPost_ret (v:=.agg #[.int .i64 2,.string s,.int .i64 0,.int .i64 0,.int .u64 0,.slice none 0 0]) ?_ rfl ⟨rfl,y1v _ _⟩;simp[results,results20,go_sem]
theorem q6t(z:Int)(h0:0≤z)(h1:z≤2147483647)(w:World):
 Calls Tryz.prog 14 #[.int .i64 z] w fun e w'=>e=.returned (.agg #[.int .i64 1,.string ⟨#[]⟩,.int .i64 0,.int .i64 0,.int .u64 z,.slice none 0 0])∧Ext w w':=by
 have hw:IntKind.u64.wrap z=z:=by simp(disch:=omega) only[IntWalk.u64_in]
 go_enter func14,ntmps14
 go_wp2
 refine bodyPost_ret (v:=.agg #[.int .i64 1,.string ⟨#[]⟩,.int .i64 0,.int .i64 0,.int .u64 z,.slice none 0 0]) ?_ rfl ⟨rfl,y1v _ _⟩;simp[results,results14,go_sem,hw]
theorem Sl.twin{α:Type}{R:α→List Value→Prop}{w:World}{B sz g:Nat}{x y:α}{cs ds:List Value}(hb:g<B)(hl:cs.length=sz)(hl2:ds.length=sz)(hc:Cells w g 0 (cs++ds))(ho:∀v,v∈cs++ds→v.oneCell'=true)(hr:R x cs)(hr2:R y ds):
 Sl R w B sz [x,y] (.slice (some ⟨g,0,none⟩) 2 2):=by
 refine⟨_,2,rfl,y1j _,fun k hk=>?_⟩;match k,hk with
 |0,_=>exact⟨g,0,cs,rfl,hb,hl,fun j v hj=>by
   have:=hc j v (by rw[List.getElem?_append_left (List.getElem?_eq_some_iff.1 hj).1];exact hj);simpa using this,fun v hv=>ho v (List.mem_append_left _ hv),hr⟩
 |1,_=>exact⟨g,0,ds,rfl,hb,hl2,fun j v hj=>by
   have:=hc (cs.length+j) v (by rw[List.getElem?_append_right (by omega),Nat.add_sub_cancel_left];exact hj);rw[hl] at this;simpa using this,fun v hv=>ho v (List.mem_append_right _ hv),hr2⟩
theorem Blk.ty{w:World}{g:Nat}{t t':TypeId}{cs ds:List Value}(h:Blk w g t cs)(k:Blk w g t' ds):t=t':=h.tag.one k.tag
abbrev cBn:List Value:=[.string tNn,.int .i64 1,.string ⟨#[]⟩,.int .i64 0,.int .i64 0,.int .u64 2,.slice none 0 0]
abbrev cPt(s:ByteArray)(b:Bool):List Value:=[.string s,.bool b,.int .i64 2,.string tNn,.int .i64 0,.int .i64 0,.int .u64 0,.slice none 0 0]
abbrev k8e(u:Value):List Value:=[.int .i64 6,.string ⟨#[]⟩,.int .i64 14,.int .i64 0,.int .u64 0,u]
abbrev cIa(u:Value):List Value:=[.int .i64 4,.string ⟨#[]⟩,.string ⟨#[]⟩,u,.slice none 0 0,.slice none 0 0,.slice none 0 0,.slice none 0 0,.slice none 0 0]
def exB(w:World)(u:Value)(a b h g:Nat):Prop:=Blk w a 45 cBn∧Blk w b 42 (cPt tA false++cPt tY true)∧Blk w h 37 (cIa (.slice (some ⟨g,0,none⟩) 2 2))∧Blk w g 40 (cNm tY++k8e u)
def exF(W:World)(u:Value)(i:Nat)(v:Value)(w:World):Prop:=
 if i=2 then∃g,v=.slice (some ⟨g,0,none⟩) 1 1∧Blk w g 45 cBn
 else if i=7 then∃g,v=.slice (some ⟨g,0,none⟩) 2 2∧Blk w g 42 (cPt tA false++cPt tY true)
 else if i=10 then∃g,v=.slice (some ⟨g,0,none⟩) 2 2∧Blk w g 40 (cNm tY++k8e u)
 else if i=11 then∃g,v=.agg #[.int .i64 4,.string ⟨#[]⟩,.string ⟨#[]⟩,.slice (some ⟨g,0,none⟩) 2 2,.slice none 0 0,.slice none 0 0,.slice none 0 0,.slice none 0 0,.slice none 0 0]∧Blk w g 40 (cNm tY++k8e u)
 else if i=12 then∃h g,v=.slice (some ⟨h,0,none⟩) 1 1∧Blk w h 37 (cIa (.slice (some ⟨g,0,none⟩) 2 2))∧Blk w g 40 (cNm tY++k8e u)
 else if i=13 then∃a b h g,v=.agg #[.string tM,.slice (some ⟨a,0,none⟩) 1 1,.slice (some ⟨b,0,none⟩) 2 2,.slice (some ⟨h,0,none⟩) 1 1]∧exB w u a b h g
 else if i=14 then∃g,v=.pointer (some ⟨g,0,none⟩)∧W.heap.size≤g∧Blk w g 30 [.string ⟨#[]⟩,.slice none 0 0,.slice none 0 0,.slice none 0 0]
 else v=[.agg #[.int .i64 1,.string ⟨#[]⟩,.int .i64 0,.int .i64 0,.int .u64 2,.slice none 0 0],.agg #[.string tNn,.int .i64 1,.string ⟨#[]⟩,.int .i64 0,.int .i64 0,.int .u64 2,.slice none 0 0],undef,.agg #[.int .i64 2,.string tNn,.int .i64 0,.int .i64 0,.int .u64 0,.slice none 0 0],.agg #[.string tA,.bool false,.int .i64 2,.string tNn,.int .i64 0,.int .i64 0,.int .u64 0,.slice none 0 0],.agg #[.int .i64 2,.string tNn,.int .i64 0,.int .i64 0,.int .u64 0,.slice none 0 0],.agg #[.string tY,.bool true,.int .i64 2,.string tNn,.int .i64 0,.int .i64 0,.int .u64 0,.slice none 0 0],undef,.agg #[.int .i64 2,.string tY,.int .i64 0,.int .i64 0,.int .u64 0,.slice none 0 0],.agg #[.int .i64 6,.string ⟨#[]⟩,.int .i64 14,.int .i64 0,.int .u64 0,u]].getD i undef
theorem k8a{W:World}{u:Value}{i:Nat}{v:Value}{w w':World}(h:exF W u i v w)(hx:Ext w w'):exF W u i v w':=by
 unfold exF at h⊢;by_cases h1:i=2
 ·rw[if_pos h1] at h⊢;obtain⟨g,e,hb⟩:=h;exact⟨g,e,hb.ext hx⟩
 rw[if_neg h1] at h⊢;by_cases h1:i=7
 ·rw[if_pos h1] at h⊢;obtain⟨g,e,hb⟩:=h;exact⟨g,e,hb.ext hx⟩
 rw[if_neg h1] at h⊢;by_cases h1:i=10
 ·rw[if_pos h1] at h⊢;obtain⟨g,e,hb⟩:=h;exact⟨g,e,hb.ext hx⟩
 rw[if_neg h1] at h⊢;by_cases h1:i=11
 ·rw[if_pos h1] at h⊢;obtain⟨g,e,hb⟩:=h;exact⟨g,e,hb.ext hx⟩
 rw[if_neg h1] at h⊢;by_cases h1:i=12
 ·rw[if_pos h1] at h⊢;obtain⟨p,g,e,hb,hc⟩:=h;exact⟨p,g,e,hb.ext hx,hc.ext hx⟩
 rw[if_neg h1] at h⊢;by_cases h1:i=13
 ·rw[if_pos h1] at h⊢;obtain⟨a,b,p,g,e,hb,hc,hd,he⟩:=h;exact⟨a,b,p,g,e,hb.ext hx,hc.ext hx,hd.ext hx,he.ext hx⟩
 rw[if_neg h1] at h⊢;by_cases h1:i=14
 ·rw[if_pos h1] at h⊢;obtain⟨g,e,hb,hc⟩:=h;exact⟨g,e,hb,hc.ext hx⟩
 rw[if_neg h1] at h⊢;exact h
theorem k5o{w:World}{B g1 gs a b h g:Nat}(hs:Blk w gs 40 (cNm tA++cNm tNn))(he:exB w (.slice (some ⟨gs,0,none⟩) 2 2) a b h g)(hB:w.heap.size≤B):RM w B mMm [.string tM,.slice (some ⟨a,0,none⟩) 1 1,.slice (some ⟨b,0,none⟩) 2 2,.slice (some ⟨h,0,none⟩) 1 1]:=by
 obtain⟨h1,h2,h3,h4⟩:=he;have nm:∀s,RX w B (xNm s) (cNm s):=fun s=>RX_iff.2 ⟨_,rfl,y2c⟩
 have hsum:RX w B xSum (k8e (.slice (some ⟨gs,0,none⟩) 2 2)):=RX_iff.2 ⟨_,rfl,Sl.twin (y1m hs.lt hB) rfl rfl hs.cells (by simp[Value.oneCell']) (nm tA) (nm tNn)⟩;have hia:RI w B iAs (cIa (.slice (some ⟨g,0,none⟩) 2 2)):=RI_iff.2 ⟨_,_,_,_,_,_,rfl,Sl.twin (y1m h4.lt hB) rfl rfl h4.cells (by simp[Value.oneCell']) (nm tY) hsum,y2c,y2c,y2c,y2c,y2c⟩;refine⟨_,_,_,rfl,?_,?_,?_⟩
 ·exact Sl.one (y1m h1.lt hB) rfl h1.cells (by simp[Value.oneCell']) ⟨cZ 2,rfl,RX_iff.2 ⟨_,rfl,y2c⟩⟩
 ·exact Sl.twin (y1m h2.lt hB) rfl rfl h2.cells (by simp[Value.oneCell']) ⟨cNm tNn,rfl,nm tNn⟩ ⟨cNm tNn,rfl,nm tNn⟩
 ·exact Sl.one (y1m h3.lt hB) rfl h3.cells (by simp[Value.oneCell']) hia
abbrev cIi(u:Value):List Value:=[.int .i64 7,.string tU,.string tM,.slice none 0 0,.slice none 0 0,.slice none 0 0,.slice none 0 0,.slice none 0 0,u]
abbrev cBd(s:ByteArray)(c:List Value):List Value:=.string s::c
theorem k5n{w:World}{B b p h:Nat}(hp:Blk w p 42 (.string tY::.bool true::cZ 2))(hb:Blk w b 45 (cBd tA (cZ 1)++cBd tY (cNm tY)))(hh:Blk w h 37 (cIi (.slice (some ⟨b,0,none⟩) 2 2)))(hB:w.heap.size≤B):RM w B mTt [.string tTt,.slice none 0 0,.slice (some ⟨p,0,none⟩) 1 1,.slice (some ⟨h,0,none⟩) 1 1]:=by
 have hia:RI w B iIn (cIi (.slice (some ⟨b,0,none⟩) 2 2)):=RI_iff.2 ⟨_,_,_,_,_,_,rfl,y2c,y2c,y2c,y2c,y2c,Sl.twin (y1m hb.lt hB) rfl rfl hb.cells (by simp[Value.oneCell']) ⟨cZ 1,rfl,RX_iff.2 ⟨_,rfl,y2c⟩⟩ ⟨cNm tY,rfl,RX_iff.2 ⟨_,rfl,y2c⟩⟩⟩;refine⟨_,_,_,rfl,y2c,?_,?_⟩
 ·exact Sl.one (y1m hp.lt hB) rfl hp.cells (by simp[Value.oneCell']) ⟨cZ 2,rfl,RX_iff.2 ⟨_,rfl,y2c⟩⟩
 ·exact Sl.one (y1m hh.lt hB) rfl hh.cells (by simp[Value.oneCell']) hia
theorem q9n(w:World):
 Calls Tryz.prog 29 #[] w fun e w'=>∃v,e=.returned (.agg #[v])∧Sl (RM w' w'.heap.size) w' w'.heap.size 4 fEx v∧Ext w w':=by
 obtain⟨W0,hW0,hx0,hb0⟩:=z4w w (.slice none 0 0) 24;have hV0:=hW0.symm;have HB0:=Hd hb0;have X0:=Hd hx0;clear hW0 hx0 hb0;go_enter func29,ntmps29;go_wp2_with fail
 go_at_call 20;refine(z6k tA _).mono ?_;rintro _ w1 ⟨rfl,hx1⟩;have X1:=Hd (X0.o.trans hx1);have HB1:=Hd (HB0.o.ext hx1);clear hx1 hV0 HB0;go_wp2_with fail
 go_at_call 20;refine(z6k tNn _).mono ?_;rintro _ w2 ⟨rfl,hx2⟩;obtain⟨W3,hW3⟩:∃W3,W3=w2.alloc (.cells #[.int .i64 2,.string tA,.int .i64 0,.int .i64 0,.int .u64 0,.slice none 0 0,.int .i64 2,.string tNn,.int .i64 0,.int .i64 0,.int .u64 0,.slice none 0 0] 40):=⟨_,rfl⟩;have hV3:=hW3.symm;have hb3:Blk W3 w2.heap.size 40 (cNm tA++cNm tNn):=by rw[hW3];exact y1w w2 _ (cNm tA++cNm tNn)
 have hx3:Ext w2 W3:=by rw[hW3];exact y1v _ _
 obtain⟨W4,e2,hV4,hx4,hz4,c0,c1,c2,c3,c4,c5⟩:=z6b W3 (.int .i64 6) (.string ⟨#[]⟩) (.int .i64 14) (.int .i64 0) (.int .u64 0) (.slice (some ⟨w2.heap.size,0,none⟩) 2 2) 40;have c0:=z0k c0 e2.ext;have c1:=z0k c1 e2.ext;have c2:=z0k c2 e2.ext;have c3:=z0k c3 e2.ext;have c4:=z0k c4 e2.ext;have c5:=z0k c5 e2.ext;have X4:=Hd (X1.o.trans (hx2.trans (hx3.trans (hx4.trans e2.ext))));have HBF:=Hd (HB1.o.ext (hx2.trans (hx3.trans (hx4.trans e2.ext))));have HBS:=Hd (hb3.ext (hx4.trans e2.ext));clear hx2 hW3 hb3 hx3 hx4 hz4 HB1;go_wp2_with fail
 refine z0m 15 (W:=e2.w) (Ext) (exF e2.w (.slice (some ⟨w2.heap.size,0,none⟩) 2 2)) (fun _ _=>False) (fun _=>true) (by kernel_rfl) (z0s) (by kernel_rfl) (by kernel_rfl) ?_ (y1g _) (fun i v w w' h hx=>k8a h hx) ?_ (fun A ch w hd hp=>hp.elim) ?_
 ·exact⟨rfl,rfl,rfl,rfl,rfl,rfl,rfl,rfl,rfl,rfl,rfl,rfl,rfl,rfl,rfl,trivial⟩
 ·refine⟨?_,?_,?_,?_,?_,?_,?_,?_,?_,?_,?_,?_,?_,?_,?_,trivial⟩
  ·intro A wa hxa hd h0;obtain⟨ea,rfl⟩:=y1h hxa;clear hd h0;go_simp;refine(q6t 2 (by decide) (by decide) ea.w).mono ?_;rintro _ wk ⟨rfl,hx⟩;go_simp;first|exact⟨_,rfl,hx,rfl⟩|exact⟨hx,rfl⟩|exact⟨_,rfl,rfl⟩|exact hx
  rotate_left 1
  ·intro A wa hxa hd h0;obtain⟨ea,rfl⟩:=y1h hxa;have q1:=z0d hd 1 9 (by kernel_rfl) rfl;simp[exF] at q1;clear hd h0;go_simp;first|exact⟨_,rfl,y1v _ _,_,rfl,y1w _ _ cBn⟩|exact⟨y1v _ _,_,rfl,y1w _ _ cBn⟩
  ·intro A wa hxa hd h0;obtain⟨ea,rfl⟩:=y1h hxa;clear hd h0;go_simp;refine(z6k tNn ea.w).mono ?_;rintro _ wk ⟨rfl,hx⟩;go_simp;first|exact⟨_,rfl,hx,rfl⟩|exact⟨hx,rfl⟩|exact⟨_,rfl,rfl⟩|exact hx
  rotate_left 1
  ·intro A wa hxa hd h0;obtain⟨ea,rfl⟩:=y1h hxa;clear hd h0;go_simp;refine(z6k tNn ea.w).mono ?_;rintro _ wk ⟨rfl,hx⟩;go_simp;first|exact⟨_,rfl,hx,rfl⟩|exact⟨hx,rfl⟩|exact⟨_,rfl,rfl⟩|exact hx
  rotate_left 1
  ·intro A wa hxa hd h0;obtain⟨ea,rfl⟩:=y1h hxa;have q4:=z0d hd 4 12 (by kernel_rfl) rfl;simp[exF] at q4;have q6:=z0d hd 6 14 (by kernel_rfl) rfl;simp[exF] at q6;clear hd h0;go_simp;first|exact⟨_,rfl,y1v _ _,_,rfl,y1w _ _ (cPt tA false++cPt tY true)⟩|exact⟨y1v _ _,_,rfl,y1w _ _ (cPt tA false++cPt tY true)⟩
  ·intro A wa hxa hd h0;obtain⟨ea,rfl⟩:=y1h hxa;clear hd h0;go_simp;refine(z6k tY ea.w).mono ?_;rintro _ wk ⟨rfl,hx⟩;go_simp;first|exact⟨_,rfl,hx,rfl⟩|exact⟨hx,rfl⟩|exact⟨_,rfl,rfl⟩|exact hx
  rotate_left 1
  ·intro A wa hxa hd h0;obtain⟨ea,rfl⟩:=y1h hxa;have q8:=z0d hd 8 16 (by kernel_rfl) rfl;simp[exF] at q8;have q9:=z0d hd 9 17 (by kernel_rfl) rfl;simp[exF] at q9;clear hd h0;go_simp;first|exact⟨_,rfl,y1v _ _,_,rfl,y1w _ _ (cNm tY++k8e (.slice (some ⟨w2.heap.size,0,none⟩) 2 2))⟩|exact⟨y1v _ _,_,rfl,y1w _ _ (cNm tY++k8e (.slice (some ⟨w2.heap.size,0,none⟩) 2 2))⟩
  ·intro A wa hxa hd h0;obtain⟨ea,rfl⟩:=y1h hxa;obtain⟨g,q10,hb10⟩:=z0d hd 10 18 (by kernel_rfl) rfl;simp at q10;have HB10:=Hd hb10;clear hb10;clear hd h0;go_simp;first|exact⟨_,rfl,y1g _,_,rfl,HB10.o⟩|exact⟨y1g _,_,rfl,HB10.o⟩|exact⟨_,rfl,_,rfl,HB10.o⟩|exact⟨_,rfl,HB10.o⟩
  ·intro A wa hxa hd h0;obtain⟨ea,rfl⟩:=y1h hxa;obtain⟨g,q11,hb11⟩:=z0d hd 11 19 (by kernel_rfl) rfl;simp at q11;have HB11:=Hd hb11;clear hb11;clear hd h0;go_simp;first|exact⟨_,rfl,y1v _ _,_,_,rfl,y1w _ _ (cIa (.slice (some ⟨g,0,none⟩) 2 2)),HB11.o.ext (y1v _ _)⟩|exact⟨y1v _ _,_,_,rfl,y1w _ _ (cIa (.slice (some ⟨g,0,none⟩) 2 2)),HB11.o.ext (y1v _ _)⟩
  ·intro A wa hxa hd h0;obtain⟨ea,rfl⟩:=y1h hxa;obtain⟨g2,q2,hb2⟩:=z0d hd 2 10 (by kernel_rfl) rfl;simp at q2;have HB2:=Hd hb2;clear hb2;obtain⟨g7,q7,hb7⟩:=z0d hd 7 15 (by kernel_rfl) rfl;simp at q7;have HB7:=Hd hb7;clear hb7;obtain⟨h,g,q12,hb12⟩:=z0d hd 12 20 (by kernel_rfl) rfl;simp at q12;have HB12:=Hd hb12;clear hb12;clear hd h0;go_simp;first|exact⟨_,rfl,y1g _,_,_,_,_,rfl,HB2.o,HB7.o,HB12.o.1,HB12.o.2⟩|exact⟨y1g _,_,_,_,_,rfl,HB2.o,HB7.o,HB12.o.1,HB12.o.2⟩|exact⟨_,rfl,_,_,_,_,rfl,HB2.o,HB7.o,HB12.o.1,HB12.o.2⟩|exact⟨_,_,_,_,rfl,HB2.o,HB7.o,HB12.o.1,HB12.o.2⟩
  ·intro A wa hxa hd h0;obtain⟨ea,rfl⟩:=y1h hxa;clear hd h0;go_simp;first|exact⟨_,rfl,y1v _ _,_,rfl,ea.ext.size,y1w _ _ [.string ⟨#[]⟩,.slice none 0 0,.slice none 0 0,.slice none 0 0]⟩|exact⟨y1v _ _,_,rfl,ea.ext.size,y1w _ _ [.string ⟨#[]⟩,.slice none 0 0,.slice none 0 0,.slice none 0 0]⟩
  all_goals
   intro A wa hxa hd h0;obtain⟨ea,rfl⟩:=y1h hxa;try (have q0:=z0d hd 0 8 (by decide) rfl;simp[exF] at q0)
   try (have q3:=z0d hd 3 11 (by decide) rfl;simp[exF] at q3)
   try (have q5:=z0d hd 5 13 (by decide) rfl;simp[exF] at q5)
   have r1:=z0c h0 1 (by kernel_rfl);simp at r1;clear hd h0;go_simp;first|exact⟨_,rfl,y1g _,rfl⟩|exact⟨y1g _,rfl⟩|exact rfl|exact⟨_,rfl,rfl⟩|exact y1g _
 ·intro A wa hk;obtain⟨f,rfl,hxa,hdn,hrs⟩:=hk.fin (n:=37) rfl;obtain⟨ea,rfl⟩:=y1h hxa;have k0:=hrs 0 (by kernel_rfl);have k1:=hrs 1 (by kernel_rfl);have k3:=hrs 3 (by kernel_rfl);have k4:=hrs 4 (by kernel_rfl);have k5:=hrs 5 (by kernel_rfl);have k6:=hrs 6 (by kernel_rfl);have k7:=hrs 7 (by kernel_rfl);have k22:=hrs 22 (by kernel_rfl);have k23:=hrs 23 (by kernel_rfl);have k24:=hrs 24 (by kernel_rfl);have k25:=hrs 25 (by kernel_rfl);have k26:=hrs 26 (by kernel_rfl);have k27:=hrs 27 (by kernel_rfl);have k28:=hrs 28 (by kernel_rfl);have k29:=hrs 29 (by kernel_rfl);have k30:=hrs 30 (by kernel_rfl);have k31:=hrs 31 (by kernel_rfl);have k32:=hrs 32 (by kernel_rfl);have k33:=hrs 33 (by kernel_rfl);have k34:=hrs 34 (by kernel_rfl);have k35:=hrs 35 (by kernel_rfl);have k36:=hrs 36 (by kernel_rfl);obtain⟨g14,k2,hg14,hb14⟩:=(show∃g,f 2=.pointer (some ⟨g,0,none⟩)∧e2.w.heap.size≤g∧Blk ea.w g 30 [.string ⟨#[]⟩,.slice none 0 0,.slice none 0 0,.slice none 0 0] from hdn 14 2 rfl rfl);obtain⟨ga,gb,gh,gg,k21,hexb⟩:=(show∃a b h g,f 21=.agg #[.string tM,.slice (some ⟨a,0,none⟩) 1 1,.slice (some ⟨b,0,none⟩) 2 2,.slice (some ⟨h,0,none⟩) 1 1]∧exB ea.w (.slice (some ⟨w2.heap.size,0,none⟩) 2 2) a b h g from hdn 13 21 rfl rfl);clear hdn hrs;simp at k0 k1 k3 k4 k5 k6 k7 k22 k23 k24 k25 k26 k27 k28 k29 k30 k31 k32 k33 k34 k35 k36;simp only[List.drop_succ_cons,List.drop_zero];simp[List.range,List.range.loop,k0,k1,k3,k4,k5,k6,k7,k22,k23,k24,k25,k26,k27,k28,k29,k30,k31,k32,k33,k34,k35,k36,k2,k21];clear k0 k1 k3 k4 k5 k6 k7 k22 k23 k24 k25 k26 k27 k28 k29 k30 k31 k32 k33 k34 k35 k36 k2 k21;obtain⟨z0,z1,z2,z3⟩:=hb14.get4;obtain⟨y0,y1,y2,y3⟩:=hb14.free4;have hxe:=ea.ext;obtain⟨W5,hW5⟩:∃W5,W5=((((ea.w.setCell ⟨g14,0,none⟩ (.string tM)).setCell ⟨g14,1,none⟩ (.slice (some ⟨ga,0,none⟩) 1 1)).setCell ⟨g14,2,none⟩ (.slice (some ⟨gb,0,none⟩) 2 2)).setCell ⟨g14,3,none⟩ (.slice (some ⟨gh,0,none⟩) 1 1)):=⟨_,rfl⟩;have hV5:=hW5.symm;have far:∀{t:TypeId} {cs:List Value} {q:Nat},Blk ea.w q t cs→t≠30→Blk W5 q t cs:=fun{t cs q} hb ht=>by
   have hq:q≠g14:=fun e=>ht (Blk.ty (e▸hb) hb14)
   rw[hW5];exact(((hb.far hq _).far hq _).far hq _).far hq _
  have hbm:Blk W5 g14 30 [.string tM,.slice (some ⟨ga,0,none⟩) 1 1,.slice (some ⟨gb,0,none⟩) 2 2,.slice (some ⟨gh,0,none⟩) 1 1]:=by rw[hW5];exact hb14.store4 _ _ _ _
  have hx5:Ext e2.w W5:=by rw[hW5];exact(((hxe.setCell hg14 _).setCell hg14 _).setCell hg14 _).setCell hg14 _
  have HEB:=Hd (show exB W5 (.slice (some ⟨w2.heap.size,0,none⟩) 2 2) ga gb gh gg from⟨far hexb.1 (by decide),far hexb.2.1 (by decide),far hexb.2.2.1 (by decide),far hexb.2.2.2 (by decide)⟩);have HBM:=Hd hbm;have X5:=Hd (X4.o.trans hx5);have HBF5:=Hd (HBF.o.ext hx5);have HBS5:=Hd (HBS.o.ext hx5);clear hb14 hexb hxe hW5 far hbm hx5 hV3 hV4 c0 c1 c2 c3 c4 c5 HBF HBS;go_wp2_with fail
  go_at_call 14;refine(q6t 2 (by decide) (by decide) _).mono ?_;rintro _ w6 ⟨rfl,hx6⟩;obtain⟨W7,hW7,hx7,hb7⟩:=q7r w6 (.string ⟨#[121]⟩) (.bool true) (.int .i64 1) (.string ⟨#[]⟩) (.int .i64 0) (.int .i64 0) (.int .u64 2) (.slice none 0 0) 42;have hV7:=hW7.symm;have X7:=Hd (hx6.trans hx7);have HB7:=Hd (show Blk W7 w6.heap.size 42 (.string tY::.bool true::cZ 2) from hb7);clear hx6 hW7 hx7 hb7 hV5;go_wp2_with fail
  go_at_call 14;refine(q6t 1 (by decide) (by decide) _).mono ?_;rintro _ w8 ⟨rfl,hx8⟩;have X8:=Hd (X7.o.trans hx8);have HB8:=Hd (HB7.o.ext hx8);clear hx8 hV7 HB7;go_wp2_with fail
  go_at_call 20;refine(z6k tY _).mono ?_;rintro _ w9 ⟨rfl,hx9⟩;obtain⟨WA,hWA⟩:∃WA,WA=w9.alloc (.cells #[.string ⟨#[97]⟩,.int .i64 1,.string ⟨#[]⟩,.int .i64 0,.int .i64 0,.int .u64 1,.slice none 0 0,.string ⟨#[121]⟩,.int .i64 2,.string tY,.int .i64 0,.int .i64 0,.int .u64 0,.slice none 0 0] 45):=⟨_,rfl⟩;have hVA:=hWA.symm;have hbA:Blk WA w9.heap.size 45 (cBd tA (cZ 1)++cBd tY (cNm tY)):=by rw[hWA];exact y1w w9 _ (cBd tA (cZ 1)++cBd tY (cNm tY))
  have hxA:Ext w9 WA:=by rw[hWA];exact y1v _ _
  obtain⟨WB,hWB,hxB,hbB⟩:=q0y WA (.int .i64 7) (.string ⟨#[117]⟩) (.string ⟨#[109]⟩) (.slice none 0 0) (.slice none 0 0) (.slice none 0 0) (.slice none 0 0) (.slice none 0 0) (.slice (some ⟨w9.heap.size,0,none⟩) 2 2) 37;have hVB:=hWB.symm;obtain⟨WC,hWC,hxC,hbC⟩:=q2d WB (.string ⟨#[116]⟩) (.slice none 0 0) (.slice (some ⟨w6.heap.size,0,none⟩) 1 1) (.slice (some ⟨WA.heap.size,0,none⟩) 1 1) 30;have hVC:=hWC.symm;have X58:=Hd (X8.o.trans (hx9.trans (hxA.trans (hxB.trans hxC))));obtain⟨m0,m1,m2,m3⟩:=(HBM.o.ext X58.o).get4;obtain⟨n0,n1,n2,n3⟩:=hbC.get4;obtain⟨WD,hWD⟩:∃WD,WD=WC.alloc (.cells #[.string tM,.slice (some ⟨ga,0,none⟩) 1 1,.slice (some ⟨gb,0,none⟩) 2 2,.slice (some ⟨gh,0,none⟩) 1 1,.string ⟨#[116]⟩,.slice none 0 0,.slice (some ⟨w6.heap.size,0,none⟩) 1 1,.slice (some ⟨WA.heap.size,0,none⟩) 1 1] 30):=⟨_,rfl⟩;have hVD:=hWD.symm;have hbD:Blk WD WC.heap.size 30 ([.string tM,.slice (some ⟨ga,0,none⟩) 1 1,.slice (some ⟨gb,0,none⟩) 2 2,.slice (some ⟨gh,0,none⟩) 1 1]++[.string tTt,.slice none 0 0,.slice (some ⟨w6.heap.size,0,none⟩) 1 1,.slice (some ⟨WA.heap.size,0,none⟩) 1 1]):=by rw[hWD];exact y1w WC _ ([.string tM,.slice (some ⟨ga,0,none⟩) 1 1,.slice (some ⟨gb,0,none⟩) 2 2,.slice (some ⟨gh,0,none⟩) 1 1]++[.string tTt,.slice none 0 0,.slice (some ⟨w6.heap.size,0,none⟩) 1 1,.slice (some ⟨WA.heap.size,0,none⟩) 1 1])
  have hxD:Ext WC WD:=by rw[hWD];exact y1v _ _
  have xAD:=hxB.trans (hxC.trans hxD);have x9D:=hx9.trans (hxA.trans xAD);have x5D:=X58.o.trans hxD
  have hsl:Sl (RM WD WD.heap.size) WD WD.heap.size 4 fEx (.slice (some ⟨WC.heap.size,0,none⟩) 2 2):=
   Sl.twin hbD.lt rfl rfl hbD.cells (by simp[Value.oneCell'])
    (k5o (g1:=0) (HBS5.o.ext x5D) (by exact⟨HEB.o.1.ext x5D,HEB.o.2.1.ext x5D,HEB.o.2.2.1.ext x5D,HEB.o.2.2.2.ext x5D⟩) (y1j _))
    (k5n (HB8.o.ext x9D) (hbA.ext xAD) (hbB.ext (hxC.trans hxD)) (y1j _))
  have hbf:=HBF5.o.ext x5D;have p0:=hbf.cell 0;simp only[List.getElem?_cons_zero] at p0;have p1:=hbf.frozen 0;have hlf:=HBF5.o.lt;obtain⟨WE,hWE⟩:∃WE,WE=WD.setCell ⟨w.heap.size,0,none⟩ (.slice (some ⟨WC.heap.size,0,none⟩) 2 2):=⟨_,rfl⟩;have hVE:=hWE.symm;have hbe:Blk WE w.heap.size 24 [.slice (some ⟨WC.heap.size,0,none⟩) 2 2]:=by rw[hWE];exact hbf.store1 _
  have r0:=hbe.cell 0;simp only[List.getElem?_cons_zero] at r0;have FIN:=Hd (show Sl (RM WE WE.heap.size) WE WE.heap.size 4 fEx (.slice (some ⟨WC.heap.size,0,none⟩) 2 2)∧Ext w WE from by
   refine⟨?_,by rw[hWE];exact(X5.o.trans x5D).setCell (y1j _) _⟩;have hfar:∀{t:TypeId} {cs:List Value} {q:Nat},Blk WD q t cs→t≠24→Blk WE q t cs:=fun{t cs q} hb ht=>by
    have hq:q≠w.heap.size:=fun e=>ht (Blk.ty (e▸hb) hbf)
    rw[hWE];exact hb.far hq _
   have hzz:WE.heap.size=WD.heap.size:=by rw[hWE];simp[World.setCell]
   have hbD':=hfar hbD (by decide)
   exact Sl.twin hbD'.lt rfl rfl hbD'.cells (by simp[Value.oneCell'])
    (k5o (g1:=0) (hfar (HBS5.o.ext x5D) (by decide)) (by exact⟨hfar (HEB.o.1.ext x5D) (by decide),hfar (HEB.o.2.1.ext x5D) (by decide),hfar (HEB.o.2.2.1.ext x5D) (by decide),hfar (HEB.o.2.2.2.ext x5D) (by decide)⟩) (y1j _))
    (k5n (hfar (HB8.o.ext x9D) (by decide)) (hfar (hbA.ext xAD) (by decide)) (hfar (hbB.ext (hxC.trans hxD)) (by decide)) (y1j _)))
  clear hx9 hWA hbA hxA hWB hxB hbB hWC hxC hbC hWD hbD hxD xAD x9D x5D hsl hbf hlf hWE hbe;go_wp2_with fail
  refine bodyPost_ret (v:=.agg #[.slice (some ⟨WC.heap.size,0,none⟩) 2 2]) ?_ rfl ⟨_,rfl,FIN.o.1,FIN.o.2⟩;simp[results,results29,go_sem,r0]
end Go.Proofs.YtlfmlodanoolhaaGreatDoor
