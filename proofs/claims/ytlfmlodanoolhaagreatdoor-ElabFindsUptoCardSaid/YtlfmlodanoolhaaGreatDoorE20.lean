import Derived.Defers
import Derived.Recover
import Derived.Test.YtlfmlodanoolhaaGreatDoorE19
set_option linter.all false
set_option maxRecDepth 200000
set_option maxHeartbeats 32000000
namespace Go.Proofs.YtlfmlodanoolhaaGreatDoor
open Go Go.RowKit Go.Proofs.Tryz
theorem z4c(p:Addr)(x:Bool)(older:List PanicEntry)(w:World)(hc:w.cell? p=some (.bool x))(hz:w.frozen? p=false)(hp:p.block<w.heap.size):
 CallsD Tryz.prog 92 #[.pointer (some p)] (.panicking (q3p::older)) w fun e u' w'=>
  e=.returned (.tuple #[])∧u'=.panicking ({q3p with recovered:=true}::older)∧w'=(w.alloc (.cells #[] 146)).setCell p (.bool false):=by
 have hc':(w.alloc (.cells #[] 146)).cell? p=some (.bool x):=(y1v w _).cell hp|>.trans hc;have hz':(w.alloc (.cells #[] 146)).frozen? p=false:=(y1v w _).frozen hp|>.trans hz;have hta:∀w:World,(Instr.typeAssert (.iface 146 (.agg #[])) 20 146 true).run Tryz.prog w=.ok (.tuple #[.agg #[],.bool true]) w:=fun _=>by kernel_rfl
 unfold q3p;refine callsD_of_wpS func92 rfl fun c₀ cs hu=>?_
 apply wpS_seq;apply wpS_region;simp[wpOpsS,go_sem,recoverD,hu,ntmps92,Exit.thenS,hta];apply wpS_seq;apply wpS_region;simp[wpOpsS,go_sem,Exit.thenS];refine wpS_cond (t:=true) (by simp[Act.eval,Array.replicate]) ?_;simp only[if_true];apply wpS_region;simp[wpOpsS,go_sem,hc',hz',bodyPostS,results,results92]
theorem j6l(p:Addr)(w:World):
 CallsD Tryz.prog 92 #[.pointer (some p)] .returning w fun e u' w'=>e=.returned (.tuple #[])∧u'=.returning∧w'=w.alloc (.cells #[] 146):=by
 have hta:∀w:World,(Instr.typeAssert .nilIface 20 146 true).run Tryz.prog w=.ok (.tuple #[.agg #[],.bool false]) w:=fun _=>by kernel_rfl
 refine callsD_of_wpS func92 rfl fun c₀ cs hu=>?_
 apply wpS_seq;apply wpS_region;simp[wpOpsS,go_sem,recoverD,hu,ntmps92,Exit.thenS,hta];apply wpS_seq;apply wpS_region;simp[wpOpsS,go_sem,Exit.thenS];refine wpS_cond (t:=false) (by simp[Act.eval,Array.replicate]) ?_;simp only[Bool.false_eq_true,if_false];refine wpS_of_wp (wp_skip ?_);cases c₀
 simp_all [bodyPostS,results,results92]
attribute [local go_sem] z0f
def z3t(m:Mdl):List ByteArray:=m.params.map Bnd.name++m.ports.map Prt.name
theorem j5z{m:Mdl}{k:Nat}(hk:k<m.params.length)(h:k<(z3t m).length):(z3t m)[k]=m.params[k].name:=by
 have:(z3t m)[k]? =some m.params[k].name:=by
  unfold z3t;rw[List.getElem?_append_left (by simpa using hk),List.getElem?_map,List.getElem?_eq_getElem hk];rfl
 exact(List.getElem_eq_iff h).2 this
theorem k0a{m:Mdl}{k:Nat}(hk:k<m.ports.length)(h:m.params.length+k<(z3t m).length):(z3t m)[m.params.length+k]=m.ports[k].name:=by
 have:(z3t m)[m.params.length+k]? =some m.ports[k].name:=by
  unfold z3t;rw[List.getElem?_append_right (by simp),List.length_map,Nat.add_sub_cancel_left,List.getElem?_map,List.getElem?_eq_getElem hk];rfl
 exact(List.getElem_eq_iff h).2 this
theorem q5n{l:List ByteArray}{k:Nat}(hk:k<l.length):(l.take (k+1)).Nodup↔(l.take k).Nodup∧¬l[k]∈l.take k:=by
 rw[List.take_succ_eq_append_getElem hk,List.nodup_append];constructor
 ·rintro⟨h1,-,h3⟩;exact⟨h1,fun h=>h3 _ h _ (by simp) rfl⟩
 ·rintro⟨h1,h2⟩;exact⟨h1,by simp,fun a ha b hb e=>by simp at hb;subst hb;exact h2 (e▸ha)⟩
theorem q5o{l:List ByteArray}{k:Nat}(h:l.Nodup):(l.take k).Nodup:=by
 rw[←List.take_append_drop k l,List.nodup_append] at h;exact h.1
theorem rightM_iff{m:Mdl}:z6i m↔(z3t m).Nodup∧TOK (fun s=>s∈z3t m) m.items∧z7r (fun s=>s∈z3t m∨s∈z1u m.items) m.items:=by
 have hmem:∀s,s∈k8p m↔s∈z3t m∨s∈z1u m.items:=fun s=>by
  unfold k8p z3t;simp only[List.mem_append];constructor
  ·rintro(h|h|h)
   ·exact .inr h
   ·exact .inl (.inr h)
   ·exact .inl (.inl h)
  ·rintro((h|h)|h)
   ·exact .inr (.inr h)
   ·exact .inr (.inl h)
   ·exact .inl h
 unfold z6i;rw[z8l hmem m.items];have hnd:(k8p m).Nodup↔(z1u m.items).Nodup∧(z3t m).Nodup∧∀s,s∈z1u m.items→¬s∈z3t m:=by
  unfold k8p z3t;rw[List.nodup_append,List.nodup_append,List.nodup_append];constructor
  ·rintro⟨h1,⟨h2,h3,h4⟩,h5⟩;exact⟨h1,⟨h3,h2,fun a ha b hb e=>h4 b hb a ha e.symm⟩,fun s hs hh=>by
    rcases y2e.1 hh with h|h
    ·exact h5 s hs s (List.mem_append_right _ h) rfl
    ·exact h5 s hs s (List.mem_append_left _ h) rfl⟩
  ·rintro⟨h1,⟨h2,h3,h4⟩,h5⟩;exact⟨h1,⟨h3,h2,fun a ha b hb e=>h4 b hb a ha e.symm⟩,fun a ha b hb e=>h5 a ha (by
    rw[e];rcases y2e.1 hb with h|h
    ·exact List.mem_append_right _ h
    ·exact List.mem_append_left _ h)⟩
 rw[hnd];unfold TOK;constructor
 ·rintro⟨h1,⟨h2,h3,h4⟩,h5⟩;exact⟨h3,⟨h1,h2,h4⟩,h5⟩
 ·rintro⟨h3,⟨h1,h2,h4⟩,h5⟩;exact⟨h1,⟨h2,h3,h4⟩,h5⟩
theorem j8h(B:Nat)(m:Mdl)(w:World)(cs:List Value)(hR:RM w B m cs)(hB:B≤w.heap.size)(hsz:z0x m≤1000000000):
 Calls Tryz.prog 60 #[.agg cs.toArray] w fun e w'=>e=.returned (.bool (yes (z6i m)))∧Ext w w':=by
 obtain⟨v1,v2,v3,rfl,hp,hq,hi⟩:=hR;have o1:=hp.oneCell;have o2:=hq.oneCell;have o3:=hi.oneCell;have HI:=Hd hi;obtain⟨pa,pcap,rfl,-,hprow⟩:=hp;obtain⟨qa,qcap,rfl,-,hqrow⟩:=hq;have hme:z0x m=1+z0e z1c m.params+z0e z3k m.ports+z0e z0i m.items:=rfl;have hpl:=z0b z1c m.params z1z;have hql:=z0b z3k m.ports z9y;obtain⟨W1,e1,hV1,hx1,hz1,c0,c1,c2,c3⟩:=q2c w (.string m.name) (.slice pa m.params.length pcap) (.slice qa m.ports.length qcap) v3 30;obtain⟨W2,hW2⟩:∃W2,W2=e1.w.alloc (.cells #[.bool false] 4):=⟨_,rfl⟩;have hx2:Ext e1.w W2:=by rw[hW2];exact y1v _ _
 have hb2:Blk W2 e1.w.heap.size 4 [.bool false]:=by rw[hW2];exact y1w _ _ [_]
 obtain⟨e2,hE2⟩:=y1h (y1g W2);have hV2:=hW2.symm.trans hE2;have q12:=e1.ext.trans hx2;have q02:=hx1.trans q12;have c0:=z0k c0 q12;have c1:=z0k c1 q12;have c2:=z0k c2 q12;have c3:=z0k c3 q12;have k0:=hb2.later1;have kf0:=hb2.laterFree1;have hlt2:=hb2.lt;have HB2:=Hd (fun(e:Later W2)=>hb2.ext e.ext);have HW1:w.heap.size≤e1.w.heap.size:=y1k hx1.size e1.ext.size;have hB2:B≤W2.heap.size:=y1k hB q02.size;have Q02:=Hd q02;have hmf:=@hmf_ Tryz.prog;have HPR:=Hd hprow;have HQR:=Hd hqrow;have RI_:=Hd (rightM_iff (m:=m));have TOA:=Hd (q8c B (z0e z0i m.items) m.items (y1j _) (by omega));have INA:=Hd (k7r B (z0e z0i m.items) m.items (y1j _) (by omega));have hpln:m.params.length≤1000000000:=by omega
 have hqln:m.ports.length≤1000000000:=by omega
 have hLn:(z3t m).length=m.params.length+m.ports.length:=by simp[z3t]
 clear hW2 hx2 hb2 hE2 q12 q02 hx1 hprow hqrow hi hme hpl hql hsz hz1;have hw1:w.heap.size≤e1.w.heap.size:=HW1
 go_enter_defers func60,ntmps60
 go_wp2_with fail
 go_at_call 93;refine(z6f e2.w none [] rfl (fun g hgm=>by cases hgm)).mono ?_;rintro _ wa ⟨b1,q1,rfl,hs1,hxa,hm1,hm1'⟩;obtain⟨ea,rfl⟩:=y1h (e2.ext.trans hxa);have hgeq:W2.heap.size≤q1:=y1k e2.ext.size hm1;have S0:=Hd (hs1.congr (N':=fun t=>t∈(z3t m).take 0) (fun s=>by simp));clear hs1 hxa;have hBq:B≤q1:=y1k hB2 hgeq;go_wp2_with fail
 go_loopw [13] (fun i wr=>∃(k:Nat) (er:Later W2),k≤m.params.length∧i=.int .i64 k∧wr=er.w∧ScA wr (some ⟨b1,0,none⟩) [⟨b1,q1,fun t=>t∈(z3t m).take k⟩]∧((z3t m).take k).Nodup∧q1<wr.heap.size) (fun i _=>m.params.length - (intOf i).toNat)
 case atStart=>exact⟨0,ea,y1p _,rfl,rfl,S0.o,by simp,hm1'⟩
 case round=>
  obtain⟨k,er,hk,rfl,rfl,hs,hnd,hq1⟩:=hrel;by_cases hlt:k<m.params.length
  ·obtain⟨b,o,u0,u1,u2,u3,u4,u5,u6,rfl,hbB,hRk,hC,p0,p1,p2,p3,p4,p5,p6⟩:=HPR.o.open7 hlt;obtain⟨cx,hcs,-⟩:=hRk;simp only[List.cons.injEq] at hcs;obtain⟨rfl,-⟩:=hcs;obtain⟨d0,d1,d2,d3,d4,d5,d6⟩:=(hC.ext (Q02.o.trans er.ext)).get7;have hkL:k<(z3t m).length:=by omega
   have hname:(z3t m)[k]=m.params[k].name:=j5z hlt hkL;have TK:=Hd (q5n hkL);have NM:=Hd hname;have TN:=Hd (List.take_succ_eq_append_getElem hkL);have ND:=Hd hnd;have HS:=Hd hs;clear hC hnd hs hname;generalize m.params[k].name=nm at*;obtain⟨Wb,Wc,hVb,⟨m0,m1,m2,m3,m4,m5,m6⟩,⟨n0,n1,n2,n3,n4,n5,n6⟩,hVc,hbc,hxc,hzc⟩:=varB er.w (.string nm) u1 u2 u3 u4 u5 u6;obtain⟨ec,rfl⟩:=y1h (er.ext.trans hxc);obtain⟨g0,g1,g2,g3,g4,g5,g6⟩:=hbc.get7;have HSC:=Hd (HS.o.ext hxc);have hqc:q1<ec.w.heap.size:=y1m hq1 hxc.size;clear hbc hxc hzc;go_wp2_with fail
   go_at_call 94;refine(z4l ec.w _ _ _ nm HSC.o).mono ?_;rintro _ w1 (⟨hn,rfl,hs1,hg1⟩|⟨hc,rfl,rfl⟩)
   ·replace hg1:ec.w.grownBy w1 (some q1):=hg1;obtain⟨ed,rfl⟩:=y1h (z4y ec.ext hg1 hgeq);have T2:=Hd (TK.o.2 ⟨ND.o,fun h=>hn (inC_cons.2 (.inl (by rw[NM.o] at h;exact h)))⟩);have S2:=Hd (hs1.congr (N':=fun t=>t∈(z3t m).take (k+1)) (fun s=>by rw[TN.o,NM.o,List.mem_append,List.mem_singleton]));have hqd:q1<ed.w.heap.size:=y1m hqc hg1.size;clear hn hs1 hg1;go_wp2_with fail
    go_roundw;case rel=>exact⟨k+1,ed,by omega,by go_num,rfl,S2.o,T2.o,hqd⟩
    case measure=>simp[intOf];omega
   ·have NO:=Hd (yes_no.2 (fun h=>(TK.o.1 (q5o (rightM_iff.1 h).1)).2 (by
     rw[NM.o];rcases inC_cons.1 hc with h|h
     ·exact h
     ·exact absurd h q1u)))
    clear hc;go_wp2_with fail
    refine leaves_cons (f:=92) (args:=#[.pointer (some ⟨e1.w.heap.size,0,none⟩)]) (by simp) (by simp[go_sem]) ?_;refine(z4c ⟨e1.w.heap.size,0,none⟩ false [] ec.w (k0 ec) (kf0 ec) (y1m hlt2 ec.ext.size)).mono ?_;rintro e u' w'' ⟨rfl,rfl,rfl⟩;have hfin:((ec.w.alloc (.cells #[] 146)).setCell ⟨e1.w.heap.size,0,none⟩ (.bool false)).cell? ⟨e1.w.heap.size,0,none⟩=some (.bool false):=(((HB2.o ec).alloc _).store1 (.bool false)).get1;have hext:Ext w ((ec.w.alloc (.cells #[] 146)).setCell ⟨e1.w.heap.size,0,none⟩ (.bool false)):=(((Q02.o.trans ec.ext).alloc _).setCell hw1 _);refine⟨_,?_,by rw[NO.o],hext⟩;simp[Leaves,settle,results,results60,go_sem,hfin]
  ·have hkl:k=m.params.length:=by omega
   subst hkl;have HS:=Hd hs;have ND:=Hd hnd;clear hs hnd;go_wp2_with fail
   go_loopw [25] (fun i wr=>∃(k:Nat) (er:Later W2),k≤m.ports.length∧i=.int .i64 k∧wr=er.w∧ScA wr (some ⟨b1,0,none⟩) [⟨b1,q1,fun t=>t∈(z3t m).take (m.params.length+k)⟩]∧((z3t m).take (m.params.length+k)).Nodup∧q1<wr.heap.size) (fun i _=>m.ports.length - (intOf i).toNat)
   case atStart=>exact⟨0,er,y1p _,rfl,rfl,HS.o,ND.o,hq1⟩
   case round=>
    obtain⟨k,er,hk,rfl,rfl,hs,hnd,hq1⟩:=hrel;by_cases hlt:k<m.ports.length
    ·obtain⟨b,o,u0,u1,u2,u3,u4,u5,u6,u7,rfl,hbB,hRk,hC,p0,p1,p2,p3,p4,p5,p6,p7⟩:=HQR.o.open8 hlt;obtain⟨cx,hcs,-⟩:=hRk;simp only[List.cons.injEq] at hcs;obtain⟨rfl,rfl,-⟩:=hcs;obtain⟨d0,d1,d2,d3,d4,d5,d6,d7⟩:=(hC.ext (Q02.o.trans er.ext)).get8;have hkL:m.params.length+k<(z3t m).length:=by omega
     have hname:(z3t m)[m.params.length+k]=m.ports[k].name:=k0a hlt hkL;have TK:=Hd (q5n hkL);have NM:=Hd hname;have TN:=Hd (List.take_succ_eq_append_getElem hkL);have ND2:=Hd hnd;have HS2:=Hd hs;clear hC hnd hs hname;generalize m.ports[k].name=nm at*;generalize m.ports[k].o=ou at*;obtain⟨Wb,Wc,hVb,⟨m0,m1,m2,m3,m4,m5,m6,m7⟩,⟨n0,n1,n2,n3,n4,n5,n6,n7⟩,hVc,hbc,hxc,hzc⟩:=varP er.w (.string nm) (.bool ou) u2 u3 u4 u5 u6 u7;obtain⟨ec,rfl⟩:=y1h (er.ext.trans hxc);obtain⟨g0,g1,g2,g3,g4,g5,g6,g7⟩:=hbc.get8;have HSC:=Hd (HS2.o.ext hxc);have hqc:q1<ec.w.heap.size:=y1m hq1 hxc.size;clear hbc hxc hzc;go_wp2_with fail
     go_at_call 94;refine(z4l ec.w _ _ _ nm HSC.o).mono ?_;rintro _ w1 (⟨hn,rfl,hs1,hg1⟩|⟨hc,rfl,rfl⟩)
     ·replace hg1:ec.w.grownBy w1 (some q1):=hg1;obtain⟨ed,rfl⟩:=y1h (z4y ec.ext hg1 hgeq);have T2:=Hd (TK.o.2 ⟨ND2.o,fun h=>hn (inC_cons.2 (.inl (by rw[NM.o] at h;exact h)))⟩);have S2:=Hd (hs1.congr (N':=fun t=>t∈(z3t m).take (m.params.length+(k+1))) (fun s=>by rw[←Nat.add_assoc,TN.o,NM.o,List.mem_append,List.mem_singleton]));have hqd:q1<ed.w.heap.size:=y1m hqc hg1.size;clear hn hs1 hg1;go_wp2_with fail
      go_roundw;case rel=>exact⟨k+1,ed,by omega,by go_num,rfl,S2.o,T2.o,hqd⟩
      case measure=>simp[intOf];omega
     ·have NO:=Hd (yes_no.2 (fun h=>(TK.o.1 (q5o (rightM_iff.1 h).1)).2 (by
       rw[NM.o];rcases inC_cons.1 hc with h|h
       ·exact h
       ·exact absurd h q1u)))
      clear hc;go_wp2_with fail
      refine leaves_cons (f:=92) (args:=#[.pointer (some ⟨e1.w.heap.size,0,none⟩)]) (by simp) (by simp[go_sem]) ?_;refine(z4c ⟨e1.w.heap.size,0,none⟩ false [] ec.w (k0 ec) (kf0 ec) (y1m hlt2 ec.ext.size)).mono ?_;rintro e u' w'' ⟨rfl,rfl,rfl⟩;have hfin:((ec.w.alloc (.cells #[] 146)).setCell ⟨e1.w.heap.size,0,none⟩ (.bool false)).cell? ⟨e1.w.heap.size,0,none⟩=some (.bool false):=(((HB2.o ec).alloc _).store1 (.bool false)).get1;have hext:Ext w ((ec.w.alloc (.cells #[] 146)).setCell ⟨e1.w.heap.size,0,none⟩ (.bool false)):=(((Q02.o.trans ec.ext).alloc _).setCell hw1 _);refine⟨_,?_,by rw[NO.o],hext⟩;simp[Leaves,settle,results,results60,go_sem,hfin]
    ·have hkl:k=m.ports.length:=by omega
     subst hkl;rw[←hLn,List.take_length] at hs hnd;have hbe:Below B w er.w:=(Q02.o.trans er.ext).below hB;have HS2:=Hd hs;have ND2:=Hd hnd;have HI2:=Hd (HI.o.keepI hbe);clear hs hnd hbe;go_wp2_with fail
     go_at_call 95;refine(TOA.o er.w v3 _ _ _ HS2.o HI2.o (y1k hB2 er.ext.size) (fun g hgm=>by
      obtain rfl:=y2d.1 hgm;exact⟨hBq,hq1⟩)).mono ?_
     rintro _ w1 (⟨hok,rfl,hs1,hg1⟩|⟨hno,rfl,hg1⟩)<;>replace hg1:er.w.grownBy w1 (some q1):=hg1<;>obtain⟨ed,rfl⟩:=y1h (z4y er.ext hg1 hgeq);rotate_left
     ·have NO:=Hd (yes_no.2 (fun h=>hno (by
       obtain⟨h1,h2,h3⟩:=(rightM_iff.1 h).2.1;refine⟨h1,h2,fun s hs hc=>h3 s hs ?_⟩;rcases inC_cons.1 hc with h|h
       ·exact h
       ·exact absurd h q1u)))
      clear hno hg1;go_wp2_with fail
      refine leaves_cons (f:=92) (args:=#[.pointer (some ⟨e1.w.heap.size,0,none⟩)]) (by simp) (by simp[go_sem]) ?_;refine(z4c ⟨e1.w.heap.size,0,none⟩ false [] ed.w (k0 ed) (kf0 ed) (y1m hlt2 ed.ext.size)).mono ?_;rintro e u' w'' ⟨rfl,rfl,rfl⟩;have hfin:((ed.w.alloc (.cells #[] 146)).setCell ⟨e1.w.heap.size,0,none⟩ (.bool false)).cell? ⟨e1.w.heap.size,0,none⟩=some (.bool false):=(((HB2.o ed).alloc _).store1 (.bool false)).get1;have hext:Ext w ((ed.w.alloc (.cells #[] 146)).setCell ⟨e1.w.heap.size,0,none⟩ (.bool false)):=(((Q02.o.trans ed.ext).alloc _).setCell hw1 _);refine⟨_,?_,by rw[NO.o],hext⟩;simp[Leaves,settle,results,results60,go_sem,hfin]
     have hqd:q1<ed.w.heap.size:=y1m hq1 hg1.size;have hbe:Below B w ed.w:=(Q02.o.trans ed.ext).below hB;have HI3:=Hd (HI.o.keepI hbe);have HS3:=Hd hs1;have OK:=Hd (show TOK (fun s=>s∈z3t m) m.items from⟨hok.1,hok.2.1,fun s hs hc=>hok.2.2 s hs (inC_cons.2 (.inl hc))⟩);clear hs1 hg1 hok hbe;go_wp2_with fail
     go_at_call 96;refine(INA.o ed.w v3 _ _ HS3.o HI3.o (y1k hB2 ed.ext.size) (fun g hgm=>by
      obtain rfl:=y2d.1 hgm;exact⟨hBq,hqd⟩)).mono ?_
     rintro _ w2 (⟨hok2,rfl,hx2⟩|⟨hno,rfl,hx2⟩)<;>obtain⟨ef,rfl⟩:=y1h (ed.ext.trans hx2);rotate_left
     ·have NO:=Hd (yes_no.2 (fun h=>hno ((z8l (fun s=>by rw[inC_cons];simp[q1u]) m.items).2 (rightM_iff.1 h).2.2)));clear hno hx2;go_wp2_with fail
      refine leaves_cons (f:=92) (args:=#[.pointer (some ⟨e1.w.heap.size,0,none⟩)]) (by simp) (by simp[go_sem]) ?_;refine(z4c ⟨e1.w.heap.size,0,none⟩ false [] ef.w (k0 ef) (kf0 ef) (y1m hlt2 ef.ext.size)).mono ?_;rintro e u' w'' ⟨rfl,rfl,rfl⟩;have hfin:((ef.w.alloc (.cells #[] 146)).setCell ⟨e1.w.heap.size,0,none⟩ (.bool false)).cell? ⟨e1.w.heap.size,0,none⟩=some (.bool false):=(((HB2.o ef).alloc _).store1 (.bool false)).get1;have hext:Ext w ((ef.w.alloc (.cells #[] 146)).setCell ⟨e1.w.heap.size,0,none⟩ (.bool false)):=(((Q02.o.trans ef.ext).alloc _).setCell hw1 _);refine⟨_,?_,by rw[NO.o],hext⟩;simp[Leaves,settle,results,results60,go_sem,hfin]
     have YES:=Hd (yes_iff.2 (rightM_iff.2 ⟨ND2.o,OK.o,(z8l (fun s=>by rw[inC_cons];simp[q1u]) m.items).1 hok2⟩));clear hok2 hx2;have k0f:=k0 ef;have kf0f:=kf0 ef;go_wp2_with fail
     refine leaves_cons (f:=92) (args:=#[.pointer (some ⟨e1.w.heap.size,0,none⟩)]) (by simp) (by simp[go_sem]) ?_;refine(j6l ⟨e1.w.heap.size,0,none⟩ _).mono ?_;rintro e u' w'' ⟨rfl,rfl,rfl⟩;have hfin:((ef.w.setCell ⟨e1.w.heap.size,0,none⟩ (.bool true)).alloc (.cells #[] 146)).cell? ⟨e1.w.heap.size,0,none⟩=some (.bool true):=(((HB2.o ef).store1 (.bool true)).alloc _).get1;have hext:Ext w ((ef.w.setCell ⟨e1.w.heap.size,0,none⟩ (.bool true)).alloc (.cells #[] 146)):=(((Q02.o.trans ef.ext).setCell hw1 _).alloc _);refine⟨_,?_,by rw[YES.o],hext⟩;simp[Leaves,settle,results,results60,go_sem,hfin]
end Go.Proofs.YtlfmlodanoolhaaGreatDoor
