import Derived.Test.YtlfmlodanoolhaaGreatDoorE31
import Derived.Test.YtlfmlodanoolhaaGreatDoorE20
import Derived.Test.YtlfmlodanoolhaaGreatDoorE26
import Derived.Test.YtlfmlodanoolhaaGreatDoorE5
set_option linter.all false
set_option maxRecDepth 200000
set_option maxHeartbeats 32000000
namespace Go.Proofs.YtlfmlodanoolhaaGreatDoor
open Go Go.RowKit Go.Proofs.Tryz
attribute [local go_sem] z0f
theorem q4p:Enters Tryz.prog 63:=⟨fun _ _=>by kernel_rfl⟩
theorem j3i(N:ByteArray→Prop)(s:ByteArray)(p:Addr)(mp:Nat)(w:World)(hp:w.cell? p=some (.map (some mp)))(hs:SetB w mp N):
 Calls Tryz.prog 63 #[.string s,.pointer (some p)] w fun e w'=>e=.returned (.bool (yes (¬N s)))∧Ext w w':=by
 have hask:=hs.ask underlying119 underlying9 z9t s;by_cases hN:N s
 ·rw[yes_iff.2 hN] at hask;rw[yes_no.2 (show¬¬N s from fun h=>h hN)];clear hN hs;go_enter func63,ntmps63
  go_wp2
  go_ret;exact⟨rfl,y1g _⟩
 ·rw[yes_no.2 hN] at hask;rw[yes_iff.2 hN];clear hN hs;go_enter func63,ntmps63
  go_wp2
  go_ret;exact⟨rfl,y1g _⟩
noncomputable def z5j(f:List Mdl):Int:=if z6t f=0 then z5h f else z6t f
theorem k3w{f:List Mdl}{m:Mdl}(hm:m∈f):z0e z0i m.items≤z0e z0x f:=by
 have h1:=z0g z0x f m hm;have h2:z0x m=1+(z0e z1c m.params+z0e z3k m.ports+z0e z0i m.items):=by unfold z0x;omega
 omega
structure CInv(w:World)(fb db mp:Nat)(vf:Value)(N:ByteArray→Prop)(X:World):Prop where
 fbk:Blk X fb 24 [vf]
 dbk:Blk X db 119 [.map (some mp)]
 set:SetB X mp N
 ext:Ext w X
theorem CInv.later{w X Y:World}{fb db mp:Nat}{vf:Value}{N:ByteArray→Prop}(h:CInv w fb db mp vf N X)(hx:Ext X Y):CInv w fb db mp vf N Y:=
 ⟨h.fbk.ext hx,h.dbk.ext hx,h.set.kept hx.gr (by simp),h.ext.trans hx⟩
theorem CInv.add{w X:World}{fb db mp:Nat}{vf:Value}{N N':ByteArray→Prop}(h:CInv w fb db mp vf N X)(hm:w.heap.size≤mp)(o:Obj)(hs:SetB (z4f X mp o) mp N'):CInv w fb db mp vf N' (z4f X mp o):=by
 have hg:=z4i X mp o;exact⟨(hg.block fb h.fbk.lt (z9a h.fbk h.set).symm).trans h.fbk,(hg.block db h.dbk.lt (z9a h.dbk h.set).symm).trans h.dbk,hs,h.ext.grown hg fun r e=>by cases e;exact hm⟩
theorem CInv.congr{w X:World}{fb db mp:Nat}{vf:Value}{N N':ByteArray→Prop}(h:CInv w fb db mp vf N X)(hN:∀s,N s↔N' s):CInv w fb db mp vf N' X:=⟨h.fbk,h.dbk,h.set.congr hN,h.ext⟩
theorem q5p{f:List Mdl}{k:Nat}(hk:k<f.length):z0v (f.take (k+1))=z0v (f.take k)++[f[k].name]:=by
 unfold z0v;rw[List.take_succ_eq_append_getElem hk,List.map_append];rfl
theorem j8x{f:List Mdl}{k:Nat}(h:(z0v f).Nodup):(z0v (f.take k)).Nodup:=by
 unfold z0v at*;exact List.Pairwise.sublist ((List.take_sublist k f).map _) h
theorem q5q{f:List Mdl}{k:Nat}(hk:k<f.length):(z0v (f.take (k+1))).Nodup↔(z0v (f.take k)).Nodup∧¬f[k].name∈z0v (f.take k):=by
 rw[q5p hk,List.nodup_append];constructor
 ·rintro⟨h1,-,h3⟩;exact⟨h1,fun h=>h3 _ h _ (y2d.2 rfl) rfl⟩
 ·rintro⟨h1,h2⟩;exact⟨h1,by simp,fun a ha b hb e=>by rw[List.mem_singleton.1 hb] at e;exact h2 (e▸ha)⟩
theorem k8z{f:List Mdl}(h:¬((z0v f).Nodup∧∀m,m∈f→z6i m)):z5h f=70:=by unfold z5h;rw[if_neg h]
theorem y0s{f:List Mdl}(h:(z0v f).Nodup∧∀m,m∈f→z6i m)(h2:¬∀m,m∈f→∀s,s∈z4t m→s∈z0v f):z5h f=71:=by unfold z5h;rw[if_pos h,if_neg h2]
theorem k5q{f:List Mdl}(h:(z0v f).Nodup∧∀m,m∈f→z6i m)(h2:∀m,m∈f→∀s,s∈z4t m→s∈z0v f):z5h f=if(z3w f).length<f.length then 72 else 0:=by unfold z5h;rw[if_pos h,if_pos h2]
def k4z(vf:Value)(fb n len:Nat)(i:Nat)(v:Value)(w:World):Prop:=match i with
 |0=>v=.agg #[vf]
 |1=>∃a c,v=.slice a n c
 |2=>v=.int .i64 n
 |3=>v=.pointer (some ⟨fb,0,none⟩)
 |4=>v=vf
 |5=>v=.int .i64 len
 |6=>v=.bool (decide (n<len))
 |_=>True
theorem k4y{vf:Value}{fb n len i:Nat}{v:Value}{w w':World}(hh:k4z vf fb n len i v w)(hx:Ext w w'):k4z vf fb n len i v w':=hh
theorem j6k(B:Nat)(f:List Mdl)(w:World)(vf:Value)(hT:Tabs w)(hS:Sl (RM w B) w B 4 f vf)(hB:B≤w.heap.size)(hsz:z0e z0x f≤10000000)(hvx:∀m,m∈f→VM m):
 Calls Tryz.prog 32 #[.agg #[vf]] w fun e w'=>e=.returned (.int .i64 (z5j f))∧Ext w w':=by
 have HS:=Hd hS;have hln:=z0b z0x f z9z;have HIT:=Hd (fun m (hm:m∈f)=>y1k (k3w hm) hsz);have HMZ:=Hd (fun m (hm:m∈f)=>y1k (z0g z0x f m hm) hsz);obtain⟨a,cap,rfl,hcap,hrow⟩:=hS;have HROW:=Hd hrow;obtain⟨W1,hW1,hx1,hb1⟩:=z4w w (.slice a f.length cap) 24;have hV1:=hW1.symm;have m0:=hb1.get1;have GC:=Hd (k1z B f W1 _ (hT.ext hx1) (HS.o.extRM hx1 hB) (y1k hB hx1.size) (by omega) hvx);have HX1:=Hd hx1;have HB1:=Hd hb1;clear hcap hrow hx1 hb1 hW1 hT hvx;by_cases hc0:z6t f=0
 ·rw[hc0] at GC;have hN:z5j f=z5h f:=by unfold z5j;rw[if_pos hc0]
  rw[hN];clear hN hc0;go_enter func32,ntmps32;go_wp2_with fail
  go_at_call 59;refine GC.o.mono ?_;rintro _ w1 ⟨rfl,hx⟩;obtain⟨W2,hW2⟩:∃W2,W2=w1.alloc (.map #[] 0):=⟨_,rfl⟩;have hx2:Ext w1 W2:=by rw[hW2];exact y1v _ _
  have hs2:SetB W2 w1.heap.size (fun _=>False):=by rw[hW2];exact SetB.new w1
  obtain⟨W3,hW3,hx3,hb3⟩:=z4w W2 (.map none) 119;have m1:=hb3.get1;have n1:=hb3.free1;obtain⟨W4,hW4⟩:∃W4,W4=W3.setCell ⟨W2.heap.size,0,none⟩ (.map (some w1.heap.size)):=⟨_,rfl⟩;have hb4:Blk W4 W2.heap.size 119 [.map (some w1.heap.size)]:=by rw[hW4];exact hb3.store1 _
  have hx4:Ext W2 W4:=by rw[hW4];exact hx3.setCell (y1j _) _
  have hmp:w.heap.size≤w1.heap.size:=(HX1.o.trans hx).size
  have HC:=Hd (show CInv w w.heap.size W2.heap.size w1.heap.size (.slice a f.length cap) (fun s=>s∈z0v (f.take 0)) W4 from
   ⟨HB1.o.ext (hx.trans (hx2.trans hx4)),hb4,(hs2.kept hx4.gr (by simp)).congr (fun s=>by simp[z0v]),HX1.o.trans (hx.trans (hx2.trans hx4))⟩)
  have m4:=HC.o.fbk.get1;have hV2:=hW2.symm;have hV3:=hW3.symm;have hV4:=hW4.symm;have hmm:=@run_makeMap Tryz.prog;clear hx hx2 hs2 hx3 hb3 hb4 hx4 hW2 hW3 hW4 HX1 HB1 GC;have HC0:=Hd HC.o;go_wp2_with fail
  clear HC;go_loopw [18] (fun i wr=>∃k:Nat,k≤f.length∧i=.int .i64 k∧CInv w w.heap.size W2.heap.size w1.heap.size (.slice a f.length cap) (fun s=>s∈z0v (f.take k)) wr∧(z0v (f.take k)).Nodup∧∀m,m∈f.take k→z6i m) (fun i _=>f.length - (intOf i).toNat)
  case atStart=>exact⟨0,y1p _,rfl,HC0.o,by simp[z0v],fun m hm=>by simp at hm⟩
  case round=>
   obtain⟨k,hk,rfl,hinv,hnd,hrt⟩:=hrel;clear m4 m0 m1 n1 hV1 hV2 hV3 hV4 HC0 hmm;have HV:=Hd hinv;have HND:=Hd hnd;have HRT:=Hd hrt;clear hinv hnd hrt;by_cases hlt:k<f.length
   ·obtain⟨b,o,v0,v1,v2,v3,rfl,hbB,hR,hC,o0,o1,o2,o3⟩:=HROW.o.open4 hlt;obtain⟨d0,d1,d2,d3⟩:=(hC.ext HV.o.ext).get4;have HRM:=Hd hR;obtain⟨v1',v2',v3',hcs,-,-,-⟩:=hR;simp only[List.cons.injEq,and_true] at hcs;obtain⟨rfl,rfl,rfl,rfl⟩:=hcs;obtain⟨Wb,Wc,hVb,⟨p0,p1,p2,p3⟩,⟨q0,q1,q2,q3⟩,hVc,hbc,hxc,-⟩:=varM wr (.string f[k].name) v1 v2 v3;obtain⟨ec,hec⟩:=y1h (y1g Wc);replace hVc:=hVc.trans hec;obtain⟨c0,c1,c2,c3⟩:=hbc.later4;have HXE:=Hd (hxc.trans ec.ext);have HVE:=Hd (HV.o.later HXE.o);have y0:=HVE.o.dbk.get1;have hask:=HVE.o.set.ask underlying119 underlying9 z9t f[k].name;have GR:=Hd (j8h B f[k] ec.w _ (HRM.o.ext HVE.o.ext hB) (y1k hB HVE.o.ext.size) (by have:=HMZ.o f[k] (y1l hlt);omega));clear hC hbc hxc hec HV HRM HROW;by_cases hin:f[k].name∈z0v (f.take k)
    ·rw[yes_iff.2 hin] at hask;have FIN:=Hd (k8z (f:=f) (fun h=>((q5q hlt).1 (j8x h.1)).2 hin));clear hin GR;generalize f[k]=x at*;go_wp2_with (refine⟨trivial,?_⟩)
     go_ret;exact⟨by rw[FIN.o];rfl,HVE.o.ext⟩
    ·rw[yes_no.2 hin] at hask;by_cases hr:z6i f[k]
     ·rw[yes_iff.2 hr] at GR;have SND:=Hd ((q5q hlt).2 ⟨HND.o,hin⟩);have SRT:=Hd (show∀m,m∈f.take (k+1)→z6i m from fun m hm=>by
       rw[List.take_succ_eq_append_getElem hlt] at hm;rcases y2e.1 hm with h|h
       ·exact HRT.o m h
       ·rw[List.mem_singleton.1 h];exact hr)
      have SNM:=Hd (fun s=>(by rw[q5p hlt];simp:(s∈z0v (f.take k)∨s=f[k].name)↔s∈z0v (f.take (k+1))));clear hin hr HND HRT;generalize f[k]=x at*;go_wp2_with fail
      go_at_call 60;refine GR.o.mono ?_;rintro _ w2 ⟨rfl,hx2⟩;have HV2:=Hd (HVE.o.later hx2);have y2:=HV2.o.dbk.get1;have c0':=hx2.at_ (c0 ec);obtain⟨oo,hup,hs6⟩:=HV2.o.set.add underlying119 underlying9 x.name;have HV6:=Hd ((HV2.o.add hmp oo hs6).congr SNM.o);clear hs6 hx2 hask y0 c0 c1 c2 c3 GR;go_wp2_with fail
      go_roundw;case rel=>exact⟨k+1,by omega,by go_num,HV6.o,SND.o,SRT.o⟩
      case measure=>simp[intOf];omega
     ·rw[yes_no.2 hr] at GR;have FIN:=Hd (k8z (f:=f) (fun h=>hr (h.2 _ (y1l hlt))));clear hin hr;generalize f[k]=x at*;go_wp2_with fail
      go_at_call 60;refine GR.o.mono ?_;rintro _ w2 ⟨rfl,hx2⟩;have HX2:=Hd (HVE.o.ext.trans hx2);clear hx2;go_wp2_with fail
      go_ret;exact⟨by rw[FIN.o];rfl,HX2.o⟩
   ·have hkl:k=f.length:=by omega
    subst hkl;obtain⟨wq,hwq⟩:∃wq,wq=wr:=⟨_,rfl⟩;subst hwq;rw[List.take_length] at HND HRT HV;have y0:=HV.o.fbk.get1;have HZ0:=Hd (show CInv w w.heap.size W2.heap.size w1.heap.size (.slice a f.length cap) (fun s=>s∈z0v f) wq from HV.o);go_wp2_with fail
    clear HV y0;have ALL:=Hd (y1x HND.o HRT.o);clear HND HRT;go_loopw [38] (fun i wr=>∃k:Nat,k≤f.length∧i=.int .i64 k∧CInv w w.heap.size W2.heap.size w1.heap.size (.slice a f.length cap) (fun s=>s∈z0v f) wr∧∀m,m∈f.take k→∀s,s∈z4t m→s∈z0v f) (fun i _=>f.length - (intOf i).toNat)
    case atStart=>exact⟨0,y1p _,rfl,HZ0.o,fun m hm=>by simp at hm⟩
    case round=>
     obtain⟨k,hk,rfl,hinv,hus⟩:=hrel;have HV:=Hd hinv;have HUS:=Hd hus;clear hinv hus HZ0;have hmf:=@hmf_ Tryz.prog;by_cases hlt:k<f.length
     ·obtain⟨b,o,v0,v1,v2,v3,rfl,hbB,hR,hC,o0,o1,o2,o3⟩:=HROW.o.open4 hlt;obtain⟨d0,d1,d2,d3⟩:=(hC.ext HV.o.ext).get4;have HRM:=Hd hR;obtain⟨v1',v2',v3',hcs,-,-,-⟩:=hR;simp only[List.cons.injEq,and_true] at hcs;obtain⟨rfl,rfl,rfl,rfl⟩:=hcs;obtain⟨Wb,Wc,hVb,⟨p0,p1,p2,p3⟩,⟨q0,q1,q2,q3⟩,hVc,hbc,hxc,-⟩:=varM wr (.string f[k].name) v1 v2 v3;obtain⟨ec,hec⟩:=y1h (y1g Wc);replace hVc:=hVc.trans hec;obtain⟨c0,c1,c2,c3⟩:=hbc.later4;have HXE:=Hd (hxc.trans ec.ext);have HVE:=Hd (HV.o.later HXE.o);have hmem:=y1l hlt;have GU:=Hd (j2o B f[k] ec.w _ (HRM.o.ext HVE.o.ext hB) (y1k hB HVE.o.ext.size) (HIT.o _ hmem));have hul:=j2n f[k] (HIT.o _ hmem);clear hC hbc hxc hec HV HRM HROW;by_cases hex:∃s,s∈z4t f[k]∧¬s∈z0v f
      ·have FIN:=Hd (y0s ALL.o (fun h=>by obtain⟨s,h1,h2⟩:=hex;exact h2 (h _ hmem s h1)));clear hmem;generalize f[k]=x at*;go_wp2_with fail
       go_at_call 62;refine GU.o.mono ?_;rintro _ w2 ⟨v,rfl,hown,hx⟩;have HV2:=Hd (HVE.o.later hx)
       have GC:=Hd (z7n 63 q4p (fun s=>¬s∈z0v f) (.pointer (some ⟨W2.heap.size,0,none⟩)) (z4t x) w2
        (fun y _ w' hw'=>j3i (fun s=>s∈z0v f) y ⟨W2.heap.size,0,none⟩ w1.heap.size w' (hw'.at_ HV2.o.dbk.get1) (HV2.o.set.kept hw'.gr (by simp))) v (SStr.of_row hown) (by omega))
       rw[yes_iff.2 hex] at GC;clear hown hx GU hex;go_wp2_with fail
       go_at_call 61;refine GC.o.mono ?_;rintro _ w3 ⟨rfl,hx3⟩;have HX3:=Hd (HV2.o.ext.trans hx3);clear hx3;go_wp2_with fail
       go_ret;exact⟨by rw[FIN.o];rfl,HX3.o⟩
      ·have SUS:=Hd (show∀m,m∈f.take (k+1)→∀s,s∈z4t m→s∈z0v f from fun m hm s hs=>by
        rw[List.take_succ_eq_append_getElem hlt] at hm;rcases y2e.1 hm with h|h
        ·exact HUS.o m h s hs
        ·rw[List.mem_singleton.1 h] at hs;exact Classical.byContradiction fun hc=>hex ⟨s,hs,hc⟩)
       clear hmem HUS;generalize f[k]=x at*;go_wp2_with fail
       go_at_call 62;refine GU.o.mono ?_;rintro _ w2 ⟨v,rfl,hown,hx⟩;have HV2:=Hd (HVE.o.later hx)
       have GC:=Hd (z7n 63 q4p (fun s=>¬s∈z0v f) (.pointer (some ⟨W2.heap.size,0,none⟩)) (z4t x) w2
        (fun y _ w' hw'=>j3i (fun s=>s∈z0v f) y ⟨W2.heap.size,0,none⟩ w1.heap.size w' (hw'.at_ HV2.o.dbk.get1) (HV2.o.set.kept hw'.gr (by simp))) v (SStr.of_row hown) (by omega))
       rw[yes_no.2 hex] at GC;clear hown hx GU hex;go_wp2_with fail
       go_at_call 61;refine GC.o.mono ?_;rintro _ w3 ⟨rfl,hx3⟩;have HV3:=Hd (HV2.o.later hx3);clear hx3;go_wp2_with fail
       go_roundw;case rel=>exact⟨k+1,by omega,by go_num,HV3.o,SUS.o⟩
       case measure=>simp[intOf];omega
     ·have hkl:k=f.length:=by omega
      subst hkl;obtain⟨wz,hwz⟩:∃wz,wz=wr:=⟨_,rfl⟩;subst hwz;rw[List.take_length] at HUS;have FIN:=Hd (k5q ALL.o HUS.o);have y1:=fun e:Later wz=>e.ext.at_ HV.o.fbk.get1
      have GO:=Hd (fun e:Later wz=>j8r B f e.w _ (HS.o.extRM (HV.o.ext.trans e.ext) hB) (y1k hB (HV.o.ext.trans e.ext).size) (by omega) HIT.o);have hol:=(q1m f).1.le;clear ALL HUS;go_wp2_with fail
      refine q1b (W:=wz) (k4z (.slice a f.length cap) w.heap.size (z3w f).length f.length) (by kernel_rfl) (by kernel_rfl) ?_ (y1g _) (fun i v w w' h hx=>k4y h hx) ?_ ?_
      ·simp[GuardsMet,k4z]
      ·refine⟨?_,?_,?_,?_,?_,?_,?_,trivial⟩
       ·intro A wa hxa hd h0;obtain⟨ea,rfl⟩:=y1h hxa;have r1:=z0c h0 1 (by kernel_rfl);simp at r1;clear hd h0;go_simp;first|exact⟨_,rfl,y1g _,rfl⟩|exact⟨y1g _,rfl⟩|exact rfl|exact⟨_,rfl,rfl⟩
       ·intro A wa hxa hd h0;obtain⟨ea,rfl⟩:=y1h hxa;have q0:=z0d hd 0 47 (by kernel_rfl) rfl;simp[k4z] at q0;clear hd h0;go_simp;refine(GO.o ea).mono ?_;rintro e w2 ⟨v,rfl,hown,hx⟩;obtain⟨va,vc,rfl⟩:=z9l hown;go_simp;first|exact⟨_,rfl,hx,⟨va,vc,rfl⟩⟩|exact⟨hx,⟨va,vc,rfl⟩⟩|exact⟨va,vc,rfl⟩|exact⟨_,rfl,⟨va,vc,rfl⟩⟩
       ·intro A wa hxa hd h0;obtain⟨ea,rfl⟩:=y1h hxa;obtain⟨qa,qc,q1⟩:=z0d hd 1 48 (by kernel_rfl) rfl;simp at q1;clear hd h0;go_simp;first|exact⟨_,rfl,y1g _,rfl⟩|exact⟨y1g _,rfl⟩|exact rfl|exact⟨_,rfl,rfl⟩
       ·intro A wa hxa hd h0;obtain⟨ea,rfl⟩:=y1h hxa;have r1:=z0c h0 1 (by kernel_rfl);simp at r1;clear hd h0;go_simp;first|exact⟨_,rfl,y1g _,rfl⟩|exact⟨y1g _,rfl⟩|exact rfl|exact⟨_,rfl,rfl⟩
       ·intro A wa hxa hd h0;obtain⟨ea,rfl⟩:=y1h hxa;have q3:=z0d hd 3 50 (by kernel_rfl) rfl;simp[k4z] at q3;clear hd h0;go_simp;first|exact⟨_,rfl,y1g _,rfl⟩|exact⟨y1g _,rfl⟩|exact rfl|exact⟨_,rfl,rfl⟩
       ·intro A wa hxa hd h0;obtain⟨ea,rfl⟩:=y1h hxa;have q4:=z0d hd 4 51 (by kernel_rfl) rfl;simp[k4z] at q4;clear hd h0;go_simp;first|exact⟨_,rfl,y1g _,rfl⟩|exact⟨y1g _,rfl⟩|exact rfl|exact⟨_,rfl,rfl⟩
       ·intro A wa hxa hd h0;obtain⟨ea,rfl⟩:=y1h hxa;have q2:=z0d hd 2 49 (by kernel_rfl) rfl;simp[k4z] at q2;have q5:=z0d hd 5 52 (by kernel_rfl) rfl;simp[k4z] at q5;clear hd h0;go_simp;first|exact⟨_,rfl,y1g _,rfl⟩|exact⟨y1g _,rfl⟩|exact rfl|exact⟨_,rfl,rfl⟩
      ·intro A wa hk;obtain⟨hxa,hsz,hdf,hdn,hrs⟩:=hk;obtain⟨ea,rfl⟩:=y1h hxa;have k53:A.tmps.getD 53 undef=.bool (decide ((z3w f).length<f.length)):=hdn 6 53 rfl rfl;clear hdn hrs;rw[z4x hsz hdf];obtain⟨fZ,hfZ,hfY⟩:=tmpsF A;simp only[hfZ,hfY] at k53⊢;simp[List.range,List.range.loop,k53];clear k53 hsz hdf;clear hfZ hfY;by_cases hlt2:(z3w f).length<f.length
       ·have hd:decide ((z3w f).length<f.length)=true:=decide_eq_true hlt2;have FN2:=Hd (show z5h f=72 by rw[FIN.o,if_pos hlt2]);rw[hd];clear hlt2 hd hlt hk;go_wp2_with fail
        go_ret;exact⟨by rw[FN2.o];rfl,HV.o.ext.trans (y1i _)⟩
       ·have hd:decide ((z3w f).length<f.length)=false:=decide_eq_false hlt2;have FN2:=Hd (show z5h f=0 by rw[FIN.o,if_neg hlt2]);rw[hd];clear hlt2 hd hlt hk;go_wp2_with fail
        go_ret;exact⟨by rw[FN2.o];rfl,HV.o.ext.trans (y1i _)⟩
 ·have hN:z5j f=z6t f:=by unfold z5j;rw[if_neg hc0]
  rw[hN];have hne:(z6t f !=0)=true:=by simpa using hc0
  obtain⟨c,hc⟩:∃c,c=z6t f:=⟨_,rfl⟩;rw[←hc] at hne GC⊢;clear hN hc0 hc;go_enter func32,ntmps32;go_wp2_with fail
  go_at_call 59;refine GC.o.mono ?_;rintro _ w1 ⟨rfl,hx⟩;have FX:=Hd (HX1.o.trans hx);clear hx GC HX1 HB1;go_wp2_with fail
  go_ret;exact⟨rfl,FX.o⟩
end Go.Proofs.YtlfmlodanoolhaaGreatDoor
