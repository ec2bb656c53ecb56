import Derived.Test.YtlfmlodanoolhaaGreatDoorV30
import Derived.Test.YtlfmlodanoolhaaGreatDoorV24
import Derived.Test.YtlfmlodanoolhaaGreatDoorV23
set_option linter.all false
set_option maxRecDepth 200000
set_option maxHeartbeats 0
namespace Go.Proofs.YtlfmlodanoolhaaGreatDoor
open Go Go.RowKit Go.Proofs.Tryz
attribute [local go_sem] bc
theorem oS:Enters Tryz.prog 63:=⟨λ_ _=>by kernel_rfl⟩
theorem qK(b:ByteArray->Prop)(s:ByteArray)(p:Addr)(mp:Nat)(w:World)(h:w.cell? p=some (.map (some mp)))(c:SetB w mp b):
 Calls Tryz.prog 63 #[.string s,.pointer (some p)] w λe g=>e=.returned (.bool (yes (¬b s)))/\Ext w g:=by
 have d:=c.ask underlying119 underlying9 iZ s;by_cases a:b s
 ·rw[yes_iff.2 a] at d;rw[yes_no.2 (show¬¬b s from λf=>f a)];clear a c
  go_in
  go_wp2
  go_ret;exact⟨rfl,af _⟩
 ·rw[yes_no.2 a] at d;rw[yes_iff.2 a];clear a c
  go_in
  go_wp2
  go_ret;exact⟨rfl,af _⟩
noncomputable def cC(f:List Mdl):Int:=if ed f=0 then eL f else ed f
theorem vR{f:List Mdl}{m:Mdl}(a:m∈f):aa aj m.items<=aa ar f:=by
 have b:=ay ar f m a;have c:ar m=1+(aa au m.params+aa aJ m.ports+aa aj m.items):=by unfold ar;omega
 omega
structure CInv(w:World)(fb db mp:Nat)(vf:Value)(N:ByteArray->Prop)(X:World):Prop where
 fbk:Blk X fb 24 [vf]
 dbk:Blk X db 119 [.map (some mp)]
 set:SetB X mp N
 ext:Ext w X
theorem CInv.later{w X Y:World}{d c mp:Nat}{e:Value}{b:ByteArray->Prop}(h:CInv w d c mp e b X)(a:Ext X Y):CInv w d c mp e b Y:=
 ⟨h.fbk.ext a,h.dbk.ext a,h.set.kept a.gr zS,h.ext.trans a⟩
theorem CInv.add{w X:World}{b a mp:Nat}{d:Value}{f N':ByteArray->Prop}(h:CInv w b a mp d f X)(g:w.heap.size<=mp)(o:Obj)(i:SetB (aH X mp o) mp N'):CInv w b a mp d N' (aH X mp o):=by
 have c:=gl X mp o;exact⟨(c.block b h.fbk.lt (kf h.fbk h.set).symm).trans h.fbk,(c.block a h.dbk.lt (kf h.dbk h.set).symm).trans h.dbk,i,h.ext.grown c λj e=>by cases e;exact g⟩
theorem CInv.congr{w X:World}{c b mp:Nat}{d:Value}{a N':ByteArray->Prop}(h:CInv w c b mp d a X)(e:∀s,a s↔N' s):CInv w c b mp d N' X:=⟨h.fbk,h.dbk,h.set.congr e,h.ext⟩
theorem ow{f:List Mdl}{k:Nat}(a:k<f.length):aX (f.take (k+1))=aX (f.take k)++[f[k].name]:=by
 unfold aX;rw[List.take_succ_eq_append_getElem a,List.map_append];rfl
theorem yw{f:List Mdl}{k:Nat}(h:(aX f).Nodup):(aX (f.take k)).Nodup:=by
 unfold aX at*;exact List.Pairwise.sublist ((List.take_sublist k f).map _) h
theorem ot{f:List Mdl}{k:Nat}(h:k<f.length):(aX (f.take (k+1))).Nodup↔(aX (f.take k)).Nodup/\¬f[k].name∈aX (f.take k):=by
 rw[ow h,List.nodup_append];constructor
 ·rintro⟨a,-,d⟩;exact⟨a,λb=>d _ b _ (y8d.2 rfl) rfl⟩
 ·rintro⟨a,c⟩;exact⟨a,zS,λi ha j g e=>by rw[List.mem_singleton.1 g] at e;exact c (e▸ha)⟩
theorem nH{f:List Mdl}(h:¬((aX f).Nodup/\∀a,a∈f->dV a)):eL f=70:=by unfold eL;rw[if_neg h]
theorem su{f:List Mdl}(h:(aX f).Nodup/\∀a,a∈f->dV a)(h2:¬∀a,a∈f->∀s,s∈cg a->s∈aX f):eL f=71:=by unfold eL;rw[if_pos h,if_neg h2]
theorem nS{f:List Mdl}(h:(aX f).Nodup/\∀a,a∈f->dV a)(h2:∀a,a∈f->∀s,s∈cg a->s∈aX f):eL f=if(cY f).length<f.length then 72 else 0:=by unfold eL;rw[if_pos h,if_pos h2]
def fG(a:Value)(d n len:Nat)(i:Nat)(v:Value)(w:World):Prop:=match i with
 |0=>v=.agg #[a]
 |1=>∃b c,v=.slice b n c
 |2=>v=.int .i64 n
 |3=>v=.pointer (some ⟨d,0,none⟩)
 |4=>v=a
 |5=>v=.int .i64 len
 |6=>v=.bool (decide (n<len))
 |_=>True
theorem vh{b:Value}{a n len i:Nat}{v:Value}{w c:World}(d:fG b a n len i v w)(e:Ext w c):fG b a n len i v c:=d
theorem zG(B:Nat)(f:List Mdl)(w:World)(g6:Value)(f1:Tabs w)(f0:Sl (RM w B) w B 4 f g6)(t:B<=w.heap.size)(a4:aa ar f<=10000000)(g5:∀b,b∈f->VM b):
 Calls Tryz.prog 32 #[.agg #[g6]] w λe L=>e=.returned (.int .i64 (cC f))/\Ext w L:=by
 have e4:=Hd f0;have m4:=aw ar f gj;have c3:=Hd (λb (l:b∈f)=>ad (vR l) a4);have g9:=Hd (λb (l:b∈f)=>ad (ay ar f b l) a4);obtain⟨E,F,rfl,j4,g0⟩:=f0;have b0:=Hd g0;obtain⟨h8,f2,a6,c8⟩:=aL w (.slice E f.length F) 24;have i8:=f2.symm;have k1:=c8.get1;have m:=Hd (wY B f h8 _ (f1.ext a6) (e4.o.extRM a6 t) (ad t a6.size) zO g5);have S:=Hd a6;have c1:=Hd c8;clear j4 g0 a6 c8 f2 f1 g5;by_cases H:ed f=0
 ·rw[H] at m;have V:cC f=eL f:=by unfold cC;rw[if_pos H]
  rw[V];clear V H
  go_in
  go_wp2_with fail
  go_at_call 59;refine m.o.mono ?_;rintro _ j ⟨rfl,c⟩;obtain⟨h,b2⟩:∃h,h=j.alloc (.map #[] 0):=⟨_,rfl⟩;have q:Ext j h:=by rw[b2];exact aE _ _
  have g2:SetB h j.heap.size (λ_=>False):=by rw[b2];exact SetB.new j
  obtain⟨h9,f3,u,b4⟩:=aL h (.map none) 119;have k2:=b4.get1;have k4:=b4.free1;obtain⟨T,b3⟩:∃T,T=h9.setCell ⟨h.heap.size,0,none⟩ (.map (some j.heap.size)):=⟨_,rfl⟩;have f4:Blk T h.heap.size 119 [.map (some j.heap.size)]:=by rw[b3];exact b4.store1 _
  have b6:Ext h T:=by rw[b3];exact u.setCell (ac _) _
  have j6:w.heap.size<=j.heap.size:=(S.o.trans c).size
  have c2:=Hd (show CInv w w.heap.size h.heap.size j.heap.size (.slice E f.length F) (λs=>s∈aX (f.take 0)) T from
   ⟨c1.o.ext (c.trans (q.trans b6)),f4,(g2.kept b6.gr zS).congr (λs=>by simp[aX]),S.o.trans (c.trans (q.trans b6))⟩)
  have k3:=c2.o.fbk.get1;have i9:=b2.symm;have j0:=f3.symm;have j1:=b3.symm;have j5:=@run_makeMap Tryz.prog;clear c q g2 u b4 f4 b6 b2 f3 b3 S c1 m;have e3:=Hd c2.o;go_wp2_with fail
  clear c2;go_loopw [18] (λy wr=>∃a:Nat,a<=f.length/\y=.int .i64 a/\CInv w w.heap.size h.heap.size j.heap.size (.slice E f.length F) (λs=>s∈aX (f.take a)) wr/\(aX (f.take a)).Nodup/\∀b,b∈f.take a->dV b) (λy _=>f.length - (intOf y).toNat)
  case atStart=>exact⟨0,aA _,rfl,e3.o,by simp[aX],λb l=>by simp at l⟩
  case round=>
   obtain⟨a,a2,rfl,hinv,f9,g1⟩:=hrel;clear k3 k1 k2 k4 i8 i9 j0 j1 e3 j5;have g:=Hd hinv;have O:=Hd f9;have Q:=Hd g1;clear hinv f9 g1;by_cases k:a<f.length
   ·obtain⟨i1,o,l7,d6,d7,d8,rfl,j3,X,U,k5,k6,k7,k8⟩:=b0.o.open4 k;obtain⟨i2,i3,i4,i5⟩:=(U.ext g.o.ext).get4;have P:=Hd X;obtain⟨l8,l9,m0,a0,-,-,-⟩:=X;simp only[List.cons.injEq,and_true] at a0;obtain⟨rfl,rfl,rfl,rfl⟩:=a0;obtain⟨i0,c5,j2,⟨l0,l1,l2,l3⟩,⟨d2,d3,d4,d5⟩,Y,Z,a7,-⟩:=varM wr (.string f[a].name) d6 d7 d8;obtain⟨ec,a1⟩:=ae (af c5);replace Y:=Y.trans a1;obtain⟨c6,e7,e8,e9⟩:=Z.later4;have c4:=Hd (a7.trans ec.ext);have n:=Hd (g.o.later c4.o);have e2:=n.o.dbk.get1;have c7:=n.o.set.ask underlying119 underlying9 iZ f[a].name;have D:=Hd (yI B f[a] ec.w _ (P.o.ext n.o.ext t) (ad t n.o.ext.size) (by have:=g9.o f[a] (an k);omega));clear U Z a7 a1 g P b0;by_cases z:f[a].name∈aX (f.take a)
    ·rw[yes_iff.2 z] at c7;have r:=Hd (nH (f:=f) (λi=>((ot k).1 (yw i.1)).2 z));clear z D;generalize f[a]=x at*;go_wp2_with (refine⟨trivial,?_⟩)
     go_ret;exact⟨by rw[r.o];rfl,n.o.ext⟩
    ·rw[yes_no.2 z] at c7;by_cases K:dV f[a]
     ·rw[yes_iff.2 K] at D;have h4:=Hd ((ot k).2 ⟨O.o,z⟩);have h6:=Hd (show∀b,b∈f.take (a+1)->dV b from λb l=>by
       rw[List.take_succ_eq_append_getElem k] at l;rcases y8e.1 l with i|i
       ·exact Q.o b i
       ·rw[List.mem_singleton.1 i];exact K)
      have h5:=Hd (λs=>(by rw[ow k];simp:(s∈aX (f.take a)\/s=f[a].name)↔s∈aX (f.take (a+1))));clear z K O Q;generalize f[a]=x at*;go_wp2_with fail
      go_at_call 60;refine D.o.mono ?_;rintro _ M ⟨rfl,q⟩;have p:=Hd (n.o.later q);have n2:=p.o.dbk.get1;have m2:=q.at_ (c6 ec);obtain⟨k9,m8,g3⟩:=p.o.set.add underlying119 underlying9 x.name;have h1:=Hd ((p.o.add j6 k9 g3).congr h5.o);clear g3 q c7 e2 c6 e7 e8 e9 D;go_wp2_with fail
      go_roundw;case rel=>exact⟨a+1,zO,zN,h1.o,h4.o,h6.o⟩
      case measure=>simp[intOf];omega
     ·rw[yes_no.2 K] at D;have r:=Hd (nH (f:=f) (λi=>K (i.2 _ (an k))));clear z K;generalize f[a]=x at*;go_wp2_with fail
      go_at_call 60;refine D.o.mono ?_;rintro _ M ⟨rfl,q⟩;have h2:=Hd (n.o.ext.trans q);clear q;go_wp2_with fail
      go_ret;exact⟨by rw[r.o];rfl,h2.o⟩
   ·have c9:a=f.length:=by omega
    subst c9;obtain⟨e0,j9⟩:∃e0,e0=wr:=⟨_,rfl⟩;subst j9;rw[List.take_length] at O Q g;have e2:=g.o.fbk.get1;have e5:=Hd (show CInv w w.heap.size h.heap.size j.heap.size (.slice E f.length F) (λs=>s∈aX f) e0 from g.o);go_wp2_with fail
    clear g e2;have b9:=Hd (aq O.o Q.o);clear O Q;go_loopw [38] (λy wr=>∃a:Nat,a<=f.length/\y=.int .i64 a/\CInv w w.heap.size h.heap.size j.heap.size (.slice E f.length F) (λs=>s∈aX f) wr/\∀b,b∈f.take a->∀s,s∈cg b->s∈aX f) (λy _=>f.length - (intOf y).toNat)
    case atStart=>exact⟨0,aA _,rfl,e5.o,λb l=>by simp at l⟩
    case round=>
     obtain⟨a,a2,rfl,hinv,g4⟩:=hrel;have g:=Hd hinv;have R:=Hd g4;clear hinv g4 e5;have m5:=@hmf_ Tryz.prog;by_cases k:a<f.length
     ·obtain⟨i1,o,l7,d6,d7,d8,rfl,j3,X,U,k5,k6,k7,k8⟩:=b0.o.open4 k;obtain⟨i2,i3,i4,i5⟩:=(U.ext g.o.ext).get4;have P:=Hd X;obtain⟨l8,l9,m0,a0,-,-,-⟩:=X;simp only[List.cons.injEq,and_true] at a0;obtain⟨rfl,rfl,rfl,rfl⟩:=a0;obtain⟨i0,c5,j2,⟨l0,l1,l2,l3⟩,⟨d2,d3,d4,d5⟩,Y,Z,a7,-⟩:=varM wr (.string f[a].name) d6 d7 d8;obtain⟨ec,a1⟩:=ae (af c5);replace Y:=Y.trans a1;obtain⟨c6,e7,e8,e9⟩:=Z.later4;have c4:=Hd (a7.trans ec.ext);have n:=Hd (g.o.later c4.o);have a3:=an k;have a9:=Hd (rf B f[a] ec.w _ (P.o.ext n.o.ext t) (ad t n.o.ext.size) (c3.o _ a3));have m7:=rg f[a] (c3.o _ a3);clear U Z a7 a1 g P b0;by_cases I:∃s,s∈cg f[a]/\¬s∈aX f
      ·have r:=Hd (su b9.o (λi=>by obtain⟨s,i6,i7⟩:=I;exact i7 (i _ a3 s i6)));clear a3;generalize f[a]=x at*;go_wp2_with fail
       go_at_call 62;refine a9.o.mono ?_;rintro _ M ⟨v,rfl,A,c⟩;have p:=Hd (n.o.later c)
       have m:=Hd (kQ 63 oS (λs=>¬s∈aX f) (.pointer (some ⟨h.heap.size,0,none⟩)) (cg x) M
        (λe1 _ L a5=>qK (λs=>s∈aX f) e1 ⟨h.heap.size,0,none⟩ j.heap.size L (a5.at_ p.o.dbk.get1) (p.o.set.kept a5.gr zS)) v (SStr.of_row A) zO)
       rw[yes_iff.2 I] at m;clear A c a9 I;go_wp2_with fail
       go_at_call 61;refine m.o.mono ?_;rintro _ m1 ⟨rfl,u⟩;have h3:=Hd (p.o.ext.trans u);clear u;go_wp2_with fail
       go_ret;exact⟨by rw[r.o];rfl,h3.o⟩
      ·have h7:=Hd (show∀b,b∈f.take (a+1)->∀s,s∈cg b->s∈aX f from λb l s d0=>by
        rw[List.take_succ_eq_append_getElem k] at l;rcases y8e.1 l with i|i
        ·exact R.o b i s d0
        ·rw[List.mem_singleton.1 i] at d0;exact Classical.byContradiction λb5=>I ⟨s,d0,b5⟩)
       clear a3 R;generalize f[a]=x at*;go_wp2_with fail
       go_at_call 62;refine a9.o.mono ?_;rintro _ M ⟨v,rfl,A,c⟩;have p:=Hd (n.o.later c)
       have m:=Hd (kQ 63 oS (λs=>¬s∈aX f) (.pointer (some ⟨h.heap.size,0,none⟩)) (cg x) M
        (λe1 _ L a5=>qK (λs=>s∈aX f) e1 ⟨h.heap.size,0,none⟩ j.heap.size L (a5.at_ p.o.dbk.get1) (p.o.set.kept a5.gr zS)) v (SStr.of_row A) zO)
       rw[yes_no.2 I] at m;clear A c a9 I;go_wp2_with fail
       go_at_call 61;refine m.o.mono ?_;rintro _ m1 ⟨rfl,u⟩;have h0:=Hd (p.o.later u);clear u;go_wp2_with fail
       go_roundw;case rel=>exact⟨a+1,zO,zN,h0.o,h7.o⟩
       case measure=>simp[intOf];omega
     ·have c9:a=f.length:=by omega
      subst c9;obtain⟨a8,k0⟩:∃a8,a8=wr:=⟨_,rfl⟩;subst k0;rw[List.take_length] at R;have r:=Hd (nS b9.o R.o);have n1:=λe:Later a8=>e.ext.at_ g.o.fbk.get1
      have g8:=Hd (λe:Later a8=>yA B f e.w _ (e4.o.extRM (g.o.ext.trans e.ext) t) (ad t (g.o.ext.trans e.ext).size) zO c3.o);have m6:=(mo f).1.le;clear b9 R;go_wp2_with fail
      refine uZ (W:=a8) (fG (.slice E f.length F) w.heap.size (cY f).length f.length) zK zK ?_ (af _) (λy v w L i c=>vh i c) ?_ ?_
      ·simp[GuardsMet,fG]
      ·refine⟨?_,?_,?_,?_,?_,?_,?_,trivial⟩;rotate_left 1
       ·intro N d9 C d G;obtain⟨b1,rfl⟩:=ae C;have d2:=ab d 0 47 zK rfl;simp[fG] at d2;clear d G;go_simp;refine(g8.o b1).mono ?_;rintro e M ⟨v,rfl,A,c⟩;obtain⟨b7,b8,rfl⟩:=mF A;go_simp;first|exact⟨_,rfl,c,⟨b7,b8,rfl⟩⟩|exact⟨c,⟨b7,b8,rfl⟩⟩|exact⟨b7,b8,rfl⟩|exact⟨_,rfl,⟨b7,b8,rfl⟩⟩
       ·intro N d9 C d G;obtain⟨b1,rfl⟩:=ae C;obtain⟨m9,n0,d3⟩:=ab d 1 48 zK rfl;simp at d3;clear d G;exact zC
       all_goals
        intro N d9 C d G;obtain⟨b1,rfl⟩:=ae C;try (have d5:=ab d 3 50 zD rfl;simp[fG] at d5)
        try (have l4:=ab d 4 51 zD rfl;simp[fG] at l4)
        try (have d4:=ab d 2 49 zD rfl;simp[fG] at d4)
        try (have l5:=ab d 5 52 zD rfl;simp[fG] at l5)
        have l6:=ah G 1 zK;simp at l6;clear d G;exact zC
      ·intro N d9 a2;obtain⟨C,a4,f5,f6,j8⟩:=a2;obtain⟨b1,rfl⟩:=ae C;have d1:N.tmps.getD 53 undef=.bool (decide ((cY f).length<f.length)):=f6 6 53 rfl rfl;clear f6 j8;rw[ey a4 f5];obtain⟨m3,f8,f7⟩:=tmpsF N;simp only[f8,f7] at d1⊢;simp[List.range,List.range.loop,d1];clear d1 a4 f5;clear f8 f7;by_cases J:(cY f).length<f.length
       ·have d:decide ((cY f).length<f.length)=true:=decide_eq_true J;have c0:=Hd (show eL f=72 by rw[r.o,if_pos J]);rw[d];clear J d k a2;go_wp2_with fail
        go_ret;exact⟨by rw[c0.o];rfl,g.o.ext.trans (ag _)⟩
       ·have d:decide ((cY f).length<f.length)=false:=decide_eq_false J;have c0:=Hd (show eL f=0 by rw[r.o,if_neg J]);rw[d];clear J d k a2;go_wp2_with fail
        go_ret;exact⟨by rw[c0.o];rfl,g.o.ext.trans (ag _)⟩
 ·have V:cC f=ed f:=by unfold cC;rw[if_neg H]
  rw[V];have j7:(ed f !=0)=true:=by simpa using H
  obtain⟨e6,b5⟩:∃e6,e6=ed f:=⟨_,rfl⟩;rw[<-b5] at j7 m⊢;clear V H b5
  go_in
  go_wp2_with fail
  go_at_call 59;refine m.o.mono ?_;rintro _ j ⟨rfl,c⟩;have g7:=Hd (S.o.trans c);clear c m S c1;go_wp2_with fail
  go_ret;exact⟨rfl,g7.o⟩
