import Derived.Test.YtlfmlodanoolhaaGreatDoorE50
set_option linter.all false
set_option maxRecDepth 200000
set_option maxHeartbeats 32000000
namespace Go.Proofs.YtlfmlodanoolhaaGreatDoor
open Go Go.RowKit Go.Proofs.Tryz
theorem k6i{t y:Itm}(h:y∈t.l):z0i y≤z0i t:=by
 have h1:=z0r t;have h2:=z0g z0i t.l y h;omega
theorem j7z{t y:Itm}(h:y∈t.els):z0i y≤z0i t:=by
 have h1:=z0r t;have h2:=z0g z0i t.els y h;omega
theorem j5r(W0:World)(B N0 mb:Nat)(va:Option Addr)(vcap:Nat)(fl:List Mdl)(hSf:Sl (RM W0 B) W0 B 4 fl (.slice va fl.length vcap))(hlf:fl.length≤1000000)
 (hok:∀m,m∈fl→VM m∧j2j m∧z0x m≤65536):∀(k:Nat) (l:List Itm),RkM fl k (q2m l)→(∀t,t∈l→VI t∧MayI t∧z0i t≤65536)→q0w W0 B N0 mb (.slice va fl.length vcap) (z6o fl k) k l:=by
 intro k;induction k with
 |zero=>
  intro l hr hl;refine q0k W0 B N0 mb _ _ 0 l (fun t ht=>j3n W0 B N0 mb _ _ (z8w fl 0) 0 (fun t=>RkM fl 0 (ofI t)) (fun t y hq hy=>hq.sub fun s hs=>ofI_mem.2 (.inr (.inl (ofIs_mem.2 ⟨y,hy,hs⟩)))) (fun t y hq hy=>hq.sub fun s hs=>ofI_mem.2 (.inr (.inr (ofIs_mem.2 ⟨y,hy,hs⟩)))) (fun t hq _ _ h7=>absurd (ofI_mem.2 (.inl ⟨h7,rfl⟩)) (hq t.of)) t (hr.sub fun s hs=>ofIs_mem.2 ⟨t,ht,hs⟩) (hl t ht).1 (hl t ht).2.1)
 |succ k ih=>
  intro l hr hl;refine q0k W0 B N0 mb _ _ (k+1) l (fun t ht=>j3n W0 B N0 mb _ _ (z8w fl (k+1)) (k+1) (fun t=>RkM fl (k+1) (ofI t)∧z0i t≤65536) (fun t y hq hy=>⟨hq.1.sub fun s hs=>ofI_mem.2 (.inr (.inl (ofIs_mem.2 ⟨y,hy,hs⟩))),y1k (k6i hy) hq.2⟩) (fun t y hq hy=>⟨hq.1.sub fun s hs=>ofI_mem.2 (.inr (.inr (ofIs_mem.2 ⟨y,hy,hs⟩))),y1k (j7z hy) hq.2⟩) (fun t hq hv hm h7=>?_) t ⟨hr.sub fun s hs=>ofIs_mem.2 ⟨t,ht,hs⟩,(hl t ht).2.2⟩ (hl t ht).1 (hl t ht).2.1);obtain⟨of,h1,h2⟩:=hq.1 t.of (ofI_mem.2 (.inl ⟨h7,rfl⟩));obtain⟨ho1,ho2,ho3⟩:=hok of (q6b h1).1;exact k3y W0 B N0 mb va vcap fl k t of h1 ho1 ho2 ho3 hv hm h7 hSf hlf hq.2 (ih of.items h2 fun y hy=>⟨ho1.2.2.2 y hy,ho2.2.2.2 y hy,by
   have:=z0g z0i of.items y hy;unfold z0x at ho3;omega⟩)
end Go.Proofs.YtlfmlodanoolhaaGreatDoor
namespace Go.Proofs.YtlfmlodanoolhaaGreatDoor
open Go Go.RowKit Go.Proofs.Tryz
attribute [local go_sem] z0f
structure DsnV(w:World)(N0:Nat)(d:Dsn)(vs vp vc:Value):Prop where
 sig:OwnL RSg N0 57 4 d.sigs vs w
 prc:OwnL (RPc w) N0 70 2 d.procs vp w
 chk:OwnL (RCk w) N0 62 9 d.chks vc w
def ElR(fl:List Mdl)(top:ByteArray)(ps:List (ByteArray×Int))(w:World)(e:Ending)(w':World):Prop:=
 ∃vs vp vc,e=.returned (.tuple #[.agg #[vs,vp,vc],.int .i64 (z4b fl top ps).2])∧DsnV w' w.heap.size (z4b fl top ps).1 vs vp vc∧Ext w w'
theorem DsnV.none_(w:World)(N0:Nat):DsnV w N0 ⟨[],[],[]⟩ (.slice none 0 0) (.slice none 0 0) (.slice none 0 0):=⟨⟨[],World.ownsRow_nil _ _ _ _,Fl.nil⟩,⟨[],World.ownsRow_nil _ _ _ _,Fl.nil⟩,⟨[],World.ownsRow_nil _ _ _ _,Fl.nil⟩⟩
def hpK(j:Nat)(W:World)(cs:List Value)(vals:List Value)(i:Nat)(v:Value)(w:World):Prop:=
 if i=j then∃g,v=.func (.func 68) #[] #[.pointer (some ⟨g,0,none⟩)]∧W.heap.size≤g∧Blk w g 30 cs else v=vals.getD i undef
theorem k7s{j:Nat}{W:World}{cs vals:List Value}{i:Nat}{v:Value}{w w':World}(h:hpK j W cs vals i v w)(hx:Ext w w'):hpK j W cs vals i v w':=by
 unfold hpK at h⊢;split
 ·rename_i hk;rw[if_pos hk] at h;obtain⟨g,h1,h2,h3⟩:=h;exact⟨g,h1,h2,h3.ext hx⟩
 ·rename_i hk;rw[if_neg hk] at h;exact h
theorem q8e{of:Mdl}{p:ByteArray×Int}{l:List (ByteArray×Int)}{o:ByteArray→Option Int}(h:¬(o p.1=none∧∃b,b∈of.params∧b.name=p.1)):z9k of (p::l) o=.error 82:=by
 rw[z9k];unfold z0o;rw[if_neg h];rfl
theorem q8d{of:Mdl}{p:ByteArray×Int}{l:List (ByteArray×Int)}{o:ByteArray→Option Int}(h:o p.1=none∧∃b,b∈of.params∧b.name=p.1)(h2:¬(0≤p.2∧p.2≤2147483647)):z9k of (p::l) o=.error 62:=by
 rw[z9k];unfold z0o;rw[if_pos h];simp only[bind,Except.bind];rw[if_neg h2]
theorem j7j{of:Mdl}{p:ByteArray×Int}{l:List (ByteArray×Int)}{o:ByteArray→Option Int}(h:o p.1=none∧∃b,b∈of.params∧b.name=p.1)(h2:0≤p.2∧p.2≤2147483647):z9k of (p::l) o=z9k of l (z3h o p.1 p.2):=by
 rw[z9k];unfold z0o;rw[if_pos h];simp only[bind,Except.bind];rw[if_pos h2]
theorem DsnV.keep{w w':World}{N0 mb:Nat}{vf vs vp vc:Value}{m:Mk}(h:MkI w N0 mb vf vs vp vc m)(hs:∀g T,(T=57∨T=70∨T=62∨T=60∨T=73∨T=85)→Tag w g T→w'.heap[g]? =w.heap[g]?):DsnV w' N0 m.d vs vp vc:=by
 have kp:Kp w w':=fun b hb=>by
  rcases hb with hb|hb|hb
  ·exact hs b _ (.inr (.inr (.inr (.inl rfl)))) hb
  ·exact hs b _ (.inr (.inr (.inr (.inr (.inl rfl))))) hb
  ·exact hs b _ (.inr (.inr (.inr (.inr (.inr rfl))))) hb
 exact⟨h.sig.chg (fun g _ hg=>hs g _ (.inl rfl) hg) (fun _ _ h=>h),h.prc.chg (fun g _ hg=>hs g _ (.inr (.inl rfl)) hg) (RPc.keep kp),h.chk.chg (fun g _ hg=>hs g _ (.inr (.inr (.inl rfl))) hg) (RCk.keep kp)⟩
theorem q6d{fl:List Mdl}{top:ByteArray}{ps:List (ByteArray×Int)}{w w':World}{c:Int}(h:z6a fl top ps=.error c)(hx:Ext w w'):ElR fl top ps w (.returned (.tuple #[.agg #[.slice none 0 0,.slice none 0 0,.slice none 0 0],.int .i64 c])) w':=by
 have hd:z4b fl top ps=(⟨[],[],[]⟩,c):=by unfold z4b;rw[h]
 exact⟨_,_,_,by rw[hd],by rw[hd];exact DsnV.none_ _ _,hx⟩
theorem q9z{R:Ending→World→Prop}{tmps:Array Value}{db eb:Nat}{u0 u1 u2:Value}{e0:Int}{w:World}(h6:tmps[6]? =some (.pointer (some ⟨db,0,none⟩)))(h7:tmps[7]? =some (.pointer (some ⟨eb,0,none⟩)))
 (hd:Blk w db 50 [u0,u1,u2]) (he:Blk w eb 51 [.int .i64 e0]) (h:R (.returned (.tuple #[.agg #[u0,u1,u2],.int .i64 e0])) w):
 Leaves Tryz.prog Tryz.f15 tmps R [{target:=.fn (.func 34) #[.pointer (some ⟨db,0,none⟩),.pointer (some ⟨eb,0,none⟩)],args:=#[]}] .returning w:=by
 refine leaves_cons (f:=34) (args:=#[.pointer (some ⟨db,0,none⟩),.pointer (some ⟨eb,0,none⟩)]) (by simp) (by simp[go_sem]) ?_;obtain⟨j0,j1,j2⟩:=hd.get3;have j3:=he.cell 0;simp only[List.getElem?_cons_zero] at j3;refine(k1a db eb w).mono ?_;rintro e u' w' ⟨rfl,rfl,rfl⟩;simp[Leaves,settle,results,results15,go_sem,h6,h7,j0,j1,j2,j3,h]
theorem z2l{R:Ending→World→Prop}{tmps:Array Value}{db eb:Nat}{u0 u1 u2:Value}{e0 c:Int}{w:World}(h6:tmps[6]? =some (.pointer (some ⟨db,0,none⟩)))(h7:tmps[7]? =some (.pointer (some ⟨eb,0,none⟩)))
 (hd:Blk w db 50 [u0,u1,u2]) (he:Blk w eb 51 [.int .i64 e0]) (h:∀w',Chg (fun k=>k=db∨k=eb) w w'→R (.returned (.tuple #[.agg #[.slice none 0 0,.slice none 0 0,.slice none 0 0],.int .i64 c])) w'):
 Leaves Tryz.prog Tryz.f15 tmps R [{target:=.fn (.func 34) #[.pointer (some ⟨db,0,none⟩),.pointer (some ⟨eb,0,none⟩)],args:=#[]}] (.panicking (z2c c)) w:=by
 refine leaves_cons (f:=34) (args:=#[.pointer (some ⟨db,0,none⟩),.pointer (some ⟨eb,0,none⟩)]) (by simp) (by simp[go_sem]) ?_;refine(j6i db eb u0 u1 u2 e0 c w hd he).mono ?_;rintro e u' w' ⟨rfl,rfl,hd',he',hcg⟩;obtain⟨j0,j1,j2⟩:=hd'.get3;have j3:=he'.cell 0;simp only[List.getElem?_cons_zero] at j3;have hh:=h w' hcg;simp[Leaves,settle,results,results15,go_sem,h6,h7,j0,j1,j2,j3,hh]
theorem k4q(B:Nat)(fl:List Mdl)(va:Option Addr)(vcap:Nat)(top:ByteArray)(ps:List (ByteArray×Int))(pa:Option Addr)(pcap:Nat)(w:World)(hT:Tabs w)(htab:TabP w)(hS:Sl (RM w B) w B 4 fl (.slice va fl.length vcap))(hP:Sl RNm w B 2 ps (.slice pa ps.length pcap))(hB:B≤w.heap.size)
 (hsz:z0e z0x fl≤10000000) (hvx:∀m,m∈fl→VM m) (hlp:ps.length≤1000000):
 Calls Tryz.prog 15 #[.agg #[.slice va fl.length vcap],.string top,.slice pa ps.length pcap] w (ElR fl top ps w):=by
 have HS:=Hd hS;have HP:=Hd hP;have hlf:fl.length≤10000000:=by have:=z0b z0x fl z9z;omega
 obtain⟨W1,hW1,hx1,hb1⟩:=z4w w (.slice va fl.length vcap) 24;obtain⟨W2,hW2,hx2,hb2⟩:=k1n W1 (.slice none 0 0) (.slice none 0 0) (.slice none 0 0) 50;obtain⟨W3,hW3,hx3,hb3⟩:=z4w W2 (.int .i64 0) 51;have hV1:=hW1.symm;have hV2:=hW2.symm;have hV3:=hW3.symm;have s1:w.heap.size<W1.heap.size:=hb1.lt;have s2:W1.heap.size<W2.heap.size:=hb2.lt;have s3:W2.heap.size<W3.heap.size:=hb3.lt;have X3:=Hd (hx1.trans (hx2.trans hx3));have BF3:=Hd (hb1.ext (hx2.trans hx3));have BD3:=Hd (hb2.ext hx3);have BE3:=Hd hb3;have m0:=(hb1.ext (hx2.trans hx3)).cell 0;simp only[List.getElem?_cons_zero] at m0;have KC:=Hd (j6k B fl W3 _ (hT.ext X3.o) (hS.extRM X3.o hB) (y1k hB X3.o.size) hsz hvx);have HTB:=Hd htab;have X23:=Hd hx3;have HT:=Hd hT;have HV:=Hd hvx;clear hW1 hW2 hW3 hx1 hx2 hx3 hb1 hb2 hb3 hS hP hT htab hvx;have hmf:=@hmf_ Tryz.prog;have hmm:=@run_makeMap Tryz.prog
 go_enter_defers func15,ntmps15
 go_wp2_with fail
 go_at_call 32;refine KC.o.mono ?_;rintro _ w4 ⟨rfl,hx4⟩;have BE4:=Hd (BE3.o.ext hx4);obtain⟨q0,q1⟩:=y1x (BE4.o.cell 0) (BE4.o.frozen 0);simp only[List.getElem?_cons_zero] at q0;obtain⟨W5,hW5⟩:∃W5,W5=w4.setCell ⟨W2.heap.size,0,none⟩ (.int .i64 (z5j fl)):=⟨_,rfl⟩;have hV5:=hW5.symm;have hb5:Blk W5 W2.heap.size 51 [.int .i64 (z5j fl)]:=by rw[hW5];exact BE4.o.store1 _
 have hx5:Ext W2 W5:=by rw[hW5];exact Ext.setCell (X23.o.trans hx4) (y1j _) _
 have hc45:Chg (fun k=>k=W2.heap.size) w4 W5:=by rw[hW5];exact z1e _ _ _ _
 have X5:=Hd (show Ext w W5 by rw[hW5];exact(X3.o.trans hx4).setCell (p:=⟨W2.heap.size,0,none⟩) (by show w.heap.size≤W2.heap.size;omega) _);have BD5:=Hd (hc45.blk (BD3.o.ext hx4) (by omega));have BF5:=Hd (hc45.blk (BF3.o.ext hx4) (by omega));have BE5:=Hd hb5;have s5:W3.heap.size≤W5.heap.size:=y1k hx4.size hc45.size;obtain⟨db,hdb⟩:∃b,b=W1.heap.size:=⟨_,rfl⟩;obtain⟨eb,heb⟩:∃b,b=W2.heap.size:=⟨_,rfl⟩;have r0:=hb5.cell 0;simp only[List.getElem?_cons_zero] at r0;obtain⟨cc,hcc⟩:∃c,c=z5j fl:=⟨_,rfl⟩;rw[←hcc] at hV5 r0 BE5;rw[←hcc];have HCC:=Hd hcc;clear hW5 hb5 hx5 hc45 hx4 KC hcc m0;by_cases hc:cc=0
 ·subst hc;have hfr:=j3z B fl top W5 (.slice va fl.length vcap) (HS.o.extRM X5.o hB) (y1k hB X5.o.size) (by omega);have KF:=Hd hfr;clear hfr;have m0:=BF5.o.cell 0;simp only[List.getElem?_cons_zero] at m0;go_wp2_with fail
  go_at_call 33;refine KF.o.mono ?_;rintro _ w6 ⟨a0,a1,a2,a3,rfl,hrm,hx6⟩;have HRM:=Hd hrm;obtain⟨v1,v2,v3,hcs,hp1,hp2,hp3⟩:=hrm;simp only[List.cons.injEq,and_true] at hcs;obtain⟨rfl,rfl,rfl,rfl⟩:=hcs;have oa1:=hp1.oneCell;have oa2:=hp2.oneCell;have oa3:=hp3.oneCell;obtain⟨Wz,hWz,hxz,hbz⟩:=q2d w6 (.string ⟨#[]⟩) (.slice none 0 0) (.slice none 0 0) (.slice none 0 0) 30;have hVz:=hWz.symm;obtain⟨k0,k1,k2,k3⟩:=hbz.get4;obtain⟨l0,l1,l2,l3⟩:=hbz.free4;have HMN:=Hd (rfl:((z5z fl top).getD k2e).name=((z5z fl top).getD k2e).name);obtain⟨mn,hmn⟩:∃mn,mn=((z5z fl top).getD k2e).name:=⟨_,rfl⟩;rw[←hmn];have HMNE:=Hd hmn;obtain⟨W7,hW7⟩:∃W7,W7=((((Wz.setCell ⟨w6.heap.size,0,none⟩ (.string mn)).setCell ⟨w6.heap.size,1,none⟩ a1).setCell ⟨w6.heap.size,2,none⟩ a2).setCell ⟨w6.heap.size,3,none⟩ a3):=⟨_,rfl⟩;have hV7:=hW7.symm;have hb7:Blk W7 w6.heap.size 30 [.string mn,a1,a2,a3]:=by rw[hW7];exact hbz.store4 _ _ _ _
  have hx7:Ext w6 W7:=by rw[hW7];exact((((hxz).setCell (y1j _) _).setCell (y1j _) _).setCell (y1j _) _).setCell (y1j _) _
  have X7:=Hd (X5.o.trans (hx6.trans hx7));have HX6:=Hd (X5.o.trans hx6);have BD7:=Hd (BD5.o.ext (hx6.trans hx7));have BE7:=Hd (BE5.o.ext (hx6.trans hx7));have BF7:=Hd (BF5.o.ext (hx6.trans hx7));have BO7:=Hd hb7;have s6:W5.heap.size≤w6.heap.size:=hx6.size;have s7:w6.heap.size<W7.heap.size:=hb7.lt;clear hW7 hx7 hb7 hxz hbz hWz hx6 KF hmn HMN;obtain⟨i0,i1,i2⟩:=BD7.o.get3;obtain⟨j0,j1,j2⟩:=BD7.o.free3;have i3:=BE7.o.cell 0;simp only[List.getElem?_cons_zero] at i3;have j3:=BE7.o.frozen 0;cases hfd:z5z fl top with
  |none=>
   have HRES:=Hd (show z4b fl top ps=(⟨[],[],[]⟩,71) by unfold z4b z6a;rw[if_neg (by rw[←HCC.o];decide),hfd]);have hde:W1.heap.size≠W2.heap.size:=by omega
   obtain⟨W8,hW8⟩:∃W8,W8=((((W7.setCell ⟨W1.heap.size,0,none⟩ (.slice none 0 0)).setCell ⟨W1.heap.size,1,none⟩ (.slice none 0 0)).setCell ⟨W1.heap.size,2,none⟩ (.slice none 0 0)).setCell ⟨W2.heap.size,0,none⟩ (.int .i64 71)):=⟨_,rfl⟩;have hV8:=hW8.symm;have hb8:Blk W8 W1.heap.size 50 [.slice none 0 0,.slice none 0 0,.slice none 0 0]:=by rw[hW8];exact(BD7.o.store3 _ _ _).far hde _
   have he8:Blk W8 W2.heap.size 51 [.int .i64 71]:=by rw[hW8];exact(((BE7.o.far (p:=⟨W1.heap.size,0,none⟩) (fun e=>hde e.symm) _).far (p:=⟨W1.heap.size,1,none⟩) (fun e=>hde e.symm) _).far (p:=⟨W1.heap.size,2,none⟩) (fun e=>hde e.symm) _).store1 _
   have hx8:Ext w W8:=by rw[hW8];exact(((X7.o.setCell (p:=⟨W1.heap.size,0,none⟩) (by show w.heap.size≤W1.heap.size;omega) _).setCell (p:=⟨W1.heap.size,1,none⟩) (by show w.heap.size≤W1.heap.size;omega) _).setCell (p:=⟨W1.heap.size,2,none⟩) (by show w.heap.size≤W1.heap.size;omega) _).setCell (p:=⟨W2.heap.size,0,none⟩) (by show w.heap.size≤W2.heap.size;omega) _
   obtain⟨y0,y1,y2⟩:=hb8.get3;have y3:=he8.cell 0;simp only[List.getElem?_cons_zero] at y3;have HF:=Hd (show ElR fl top ps w (.returned (.tuple #[.agg #[.slice none 0 0,.slice none 0 0,.slice none 0 0],.int .i64 71])) W8 from⟨_,_,_,by rw[HRES.o],by rw[HRES.o];exact DsnV.none_ _ _,hx8⟩);clear hb8 he8 hx8 hW8;go_wp2_with fail
   simp[bodyPostD,Leaves,settle,results,results15,go_sem,y0,y1,y2,y3];exact HF.o
  |some of=>
   have HFD:=Hd hfd;have HRM6:=Hd (show RM w B of [.string mn,a1,a2,a3] from by
    have h:=HRM.o;rw[hfd] at h;exact RM.keep (fun p hp=>(HX6.o.cell (by omega)).symm) (y1j _) _ _ (by rw[HMNE.o,hfd];exact h))
   obtain⟨v1,v2,v3,hcs,hq1,hq2,hq3⟩:=HRM6.o;simp only[List.cons.injEq,and_true] at hcs;obtain⟨hmn',rfl,rfl,rfl⟩:=hcs;have HQ1:=Hd hq1;have HQ3:=Hd hq3;have hmem:=(q6b hfd).1;have hszo:z0x of≤10000000:=y1k (z0g z0x fl of hmem) hsz;obtain⟨W8,hW8⟩:∃W8,W8=W7.alloc (.map #[] 0):=⟨_,rfl⟩;have hV8:=hW8.symm;have hx8:Ext W7 W8:=by rw[hW8];exact y1v _ _
   have HM8:=Hd (show EnvM W8 W7.heap.size (fun _=>none) by rw[hW8];exact EnvM.new _);have X8:=Hd (X7.o.trans hx8);have BD8:=Hd (BD7.o.ext hx8);have BE8:=Hd (BE7.o.ext hx8);have BF8:=Hd (BF7.o.ext hx8);have BO8:=Hd (BO7.o.ext hx8);have s8:W7.heap.size<W8.heap.size:=HM8.o.lt
   obtain⟨REST,hREST⟩:∃REST:(ByteArray→Option Int)→Rs Dsn,REST=fun z4e=>(do
    let h←q4k of z4e ⟨#[]⟩ (fun p=>if p.o=true then 2 else 1) noMk
    let z←z1r (z6o fl fl.length) of.items h.1 h.2
    return z.2.d):=⟨_,rfl⟩
   have HREST:=Hd hREST;obtain⟨R,hR⟩:∃R,R=z6a fl top ps:=⟨_,rfl⟩;have HR:=Hd hR;have HZ0:=Hd (show R=(do let z4e←z9k of (ps.drop 0) (fun _=>none);REST z4e) by rw[hR];unfold z6a;rw[if_neg (by rw[←HCC.o];decide),hfd,hREST];rfl);have hde:W1.heap.size≠W2.heap.size:=by omega
   clear hW8 hx8 hq1 hq2 hq3 hREST hR hfd hmn';go_wp2_with fail
   go_loopw [36] (fun i wr=>∃(k:Nat) (o:ByteArray→Option Int),k≤ps.length∧i=.int .i64 k∧EnvM wr W7.heap.size o∧(∀nm v,o nm=some v→z1j v)∧Chg (fun k=>k=W7.heap.size) W8 wr∧R=(do let z4e←z9k of (ps.drop k) o;REST z4e)) (fun i _=>ps.length - (intOf i).toNat)
   case atStart=>exact⟨0,fun _=>none,y1p _,rfl,HM8.o,(fun _ _ h=>by cases h),y1u _ _,HZ0.o⟩
   case round=>
    obtain⟨k,o,hk,rfl,hm,hin,hch,hR⟩:=hrel;clear HZ0 hV8 hV7 hVz hV5 hV3 hV2 hV1 i0 i1 i2 j0 j1 j2 i3 j3 m0 k0 k1 k2 k3 l0 l1 l2 l3 q0 q1 r0;have HM:=Hd hm;have HIN:=Hd hin;have HCH:=Hd hch;have hxr:Ext w wr:=hch.ext X8.o (fun k hk=>by have:k=W7.heap.size:=hk;omega);have HXR:=Hd hxr;have ht:=z7c HM8.o hch;have BDr:=Hd (BD8.o.tags ht);have BEr:=Hd (BE8.o.tags ht);have BFr:=Hd (BF8.o.tags ht);have BOr:=Hd (BO8.o.tags ht);have sr:W8.heap.size≤wr.heap.size:=hch.size;by_cases hlt:k<ps.length
    ·rw[List.drop_eq_getElem_cons hlt] at hR;have HRR:=Hd hR;obtain⟨pa',pcap',hpe,hpc,hprow⟩:=HP.o;injection hpe with e1 e2 e3;subst e1;obtain⟨b,of9,v0,v1',rfl,hbB,hRn,hC,ho0,ho1⟩:=hprow.open2 hlt;simp only[RNm,List.cons.injEq,and_true] at hRn;obtain⟨rfl,rfl⟩:=hRn;obtain⟨d0,d1⟩:=(hC.ext hxr).get2;obtain⟨V1,hV1',hy1,hbb1⟩:=q7l wr (.string ps[k].1) (.int .i64 ps[k].2) 85;have hW1:=hV1'.symm;obtain⟨p0,p1⟩:=hbb1.later2;have n0:=hbb1.get2;obtain⟨n0,n1⟩:=n0;have hlk:=(hm.ext hy1).look ps[k].1;have BP:=Hd hbb1;have Y1:=Hd hy1;have sv1:wr.heap.size<V1.heap.size:=hbb1.lt;have U1:=Hd (fun w'=>z1q 82 w');have U2:=Hd (fun w'=>z2h 82 (by decide) w');have U3:=Hd (fun w'=>z1q 62 w');have U4:=Hd (fun w'=>z2h 62 (by decide) w');generalize ps[k]=q at*;obtain⟨qn,qv⟩:=q;simp only at p0 p1 n0 n1 d0 d1 hlk hW1 BP;have hq1:=Hd (show∀e:Later V1,e.w.cell? ⟨w6.heap.size,0,none⟩=some (.string mn) from fun e=>((BOr.o.ext hy1).ext e.ext).cell 0);obtain⟨g0,g1,g2,g3⟩:=(BOr.o.ext hy1).later4;clear hC hV1' hy1 hbb1 hm hin hch hR ht hpc hprow hxr e2 e3 ho0 ho1;cases ho:o qn with
     |some z=>
      rw[ho] at hlk;simp only[Option.getD_some,Option.isSome_some] at hlk;have HNO:=Hd (show z6a fl top ps=.error 82 by rw[←HR.o,HRR.o,q8e (fun h=>by rw[ho] at h;cases h.1)];rfl);clear ho;go_wp2_with fail
      refine z0m 9 (W:=V1) (Ext) (eqG [.bool true,.bool false,.bool false,undef,undef,undef,undef,undef,.bool false]) (fun _ _=>False) (fun i=>match i with|3|4|5|6|7=>false|_=>true) (by kernel_rfl) (z0s) (by kernel_rfl) (by kernel_rfl) ?_ (y1g _) (fun i v w w' h hx=>z7l h hx) ?_ (fun A ch w hd hp=>hp.elim) ?_
      ·exact⟨rfl,rfl,rfl,(fun v w h e=>by have h2:=e.symm.trans h;cases h2),(fun v w h e=>by have h2:=e.symm.trans h;cases h2),(fun v w h e=>by have h2:=e.symm.trans h;cases h2),(fun v w h e=>by have h2:=e.symm.trans h;cases h2),(fun v w h e=>by have h2:=e.symm.trans h;cases h2),rfl,trivial⟩
      ·refine⟨?_,?_,?_,fun w=>rfl,fun w=>rfl,fun w=>rfl,fun w=>rfl,fun w=>rfl,?_,trivial⟩
       all_goals
        intro A wa hxa hd h0;obtain⟨ea,rfl⟩:=y1h hxa;try (have q0:=z0d hd 0 47 (by decide) rfl;simp[eqG] at q0)
        try (have q1:=z0d hd 1 48 (by decide) rfl;simp[eqG] at q1)
        try (have q2:=z0d hd 2 49 (by decide) rfl;simp[eqG] at q2)
        try (have q7:=z0d hd 7 54 (by decide) rfl;simp[eqG] at q7)
        have r14:=z0c h0 14 (by kernel_rfl);simp at r14;clear hd h0;go_simp;first|exact⟨_,rfl,y1g _,rfl⟩|exact⟨y1g _,rfl⟩|exact rfl|exact⟨_,rfl,rfl⟩|exact y1g _
      ·intro A wa hk;obtain⟨f,rfl,hxa,hdn,hrs⟩:=hk.fin (n:=89) rfl;obtain⟨ea,rfl⟩:=y1h hxa;have k6:=hrs 6 (by kernel_rfl);have k7:=hrs 7 (by kernel_rfl);have k55:f 55=.bool false:=hdn 8 55 rfl rfl;clear hdn hrs;simp at k6 k7;simp only[List.drop_succ_cons,List.drop_zero];simp[List.range,List.range.loop,k6,k7,k55];clear k6 k7 k55;go_wp2_with fail
       go_at_call 35;refine(U2.o _).mono ?_;rintro _ w9 ⟨rfl,rfl⟩;have hx9:=Hd (HXR.o.trans (Y1.o.trans ea.ext));have hd9:=Hd (BDr.o.ext (Y1.o.trans ea.ext));have he9:=Hd (BEr.o.ext (Y1.o.trans ea.ext));go_wp2_with fail
       refine z2l rfl rfl hd9.o he9.o (fun w'' hc=>q6d HNO.o ?_);exact hc.ext hx9.o (fun k hk=>by rcases hk with hk|hk<;>omega)
     |none=>
      rw[ho] at hlk;simp only[Option.getD_none,Option.isSome_none] at hlk;have HO:=Hd ho;have KH:=Hd (fun w'=>q2o (.string mn) a1 a2 a3 rfl oa1 oa2 oa3 w');obtain⟨kb,hkb⟩:∃kb,kb=yes (∃x,x∈of.params∧x.name=qn):=⟨_,rfl⟩;have HKB:=Hd hkb;have KB:=Hd (show∀(g:Nat) (w':World),Blk w' g 30 [.string mn,a1,a2,a3]→Ext V1 w'→Calls Tryz.prog 68 #[.string qn,.pointer (some ⟨g,0,none⟩)] w' fun e w''=>e=.returned (.bool kb)∧Ext w' w'' from fun g w' hb hx=>by
       have hxa:=(HXR.o.trans Y1.o).trans hx;rw[HKB.o];exact q8z B of.params a1 qn g w' (hb.cell 1) (HQ1.o.extRB hxa hB) (y1k hB hxa.size) (by have:=z0b z1c of.params z1z;unfold z0x at hszo;omega) hb.lt)
      clear ho hkb;go_wp2_with fail
      refine z0m 9 (W:=V1) (Ext) (hpK 4 V1 [.string mn,a1,a2,a3] [.bool false,.bool true,.bool true,.agg #[.string mn,a1,a2,a3],undef,.pointer (some ⟨wr.heap.size,0,none⟩),.string qn,.bool kb,.bool kb]) (fun _ _=>False) (fun _=>true) (by kernel_rfl) (z0s) (by kernel_rfl) (by kernel_rfl) ?_ (y1g _) (fun i v w w' h hx=>k7s h hx) ?_ (fun A ch w hd hp=>hp.elim) ?_
      ·exact⟨rfl,rfl,rfl,(fun v w h=>h),(fun v w h=>h),(fun v w h=>h),(fun v w h=>h),(fun v w h=>h),rfl,trivial⟩
      ·refine⟨?_,?_,?_,?_,?_,?_,?_,?_,?_,trivial⟩;rotate_left 4
       ·intro A wa hxa hd h0;obtain⟨ea,rfl⟩:=y1h hxa;have q3:=z0d hd 3 50 (by kernel_rfl) rfl;simp[hpK] at q3;clear hd h0;go_simp;refine(KH.o ea.w).mono ?_;rintro _ wk ⟨rfl,hbk,hx⟩;have HBK:=Hd hbk;have HZ:=Hd ea.ext.size;clear hbk;go_simp;first|exact⟨_,rfl,hx,_,rfl,HZ.o,HBK.o⟩|exact⟨hx,_,rfl,HZ.o,HBK.o⟩|exact⟨_,rfl,_,rfl,HZ.o,HBK.o⟩
       rotate_left 2
       ·intro A wa hxa hd h0;obtain⟨ea,rfl⟩:=y1h hxa;obtain⟨g,q4,hgg,hbk4⟩:=z0d hd 4 51 (by kernel_rfl) rfl;simp at q4;have HBK4:=Hd hbk4;clear hbk4;have q6:=z0d hd 6 53 (by kernel_rfl) rfl;simp[hpK] at q6;clear hd h0;go_simp;refine(KB.o g ea.w HBK4.o ea.ext).mono ?_;rintro _ wk ⟨rfl,hx⟩;go_simp;first|exact⟨_,rfl,hx,rfl⟩|exact⟨hx,rfl⟩|exact⟨_,rfl,rfl⟩|exact hx
       all_goals
        intro A wa hxa hd h0;obtain⟨ea,rfl⟩:=y1h hxa;try (have q2:=z0d hd 2 49 (by decide) rfl;simp[hpK] at q2)
        try (have q7:=z0d hd 7 54 (by decide) rfl;simp[hpK] at q7)
        try (have q0:=z0d hd 0 47 (by decide) rfl;simp[hpK] at q0)
        try (have q1:=z0d hd 1 48 (by decide) rfl;simp[hpK] at q1)
        try (have q5:=z0d hd 5 52 (by decide) rfl;simp[hpK] at q5)
        have r14:=z0c h0 14 (by kernel_rfl);simp at r14;have r8:=z0c h0 8 (by kernel_rfl);simp at r8;have r12:=z0c h0 12 (by kernel_rfl);simp at r12;clear hd h0;go_simp;first|exact⟨_,rfl,y1g _,rfl⟩|exact⟨y1g _,rfl⟩|exact rfl|exact⟨_,rfl,rfl⟩|exact y1g _
      ·intro A wa hk;obtain⟨f,rfl,hxa,hdn,hrs⟩:=hk.fin (n:=89) rfl;obtain⟨ea,rfl⟩:=y1h hxa;have k0:=hrs 0 (by kernel_rfl);have k1:=hrs 1 (by kernel_rfl);have k2:=hrs 2 (by kernel_rfl);have k3:=hrs 3 (by kernel_rfl);have k4:=hrs 4 (by kernel_rfl);have k5:=hrs 5 (by kernel_rfl);have k6:=hrs 6 (by kernel_rfl);have k7:=hrs 7 (by kernel_rfl);have k8:=hrs 8 (by kernel_rfl);have k9:=hrs 9 (by kernel_rfl);have k10:=hrs 10 (by kernel_rfl);have k11:=hrs 11 (by kernel_rfl);have k15:=hrs 15 (by kernel_rfl);have k16:=hrs 16 (by kernel_rfl);have k17:=hrs 17 (by kernel_rfl);have k18:=hrs 18 (by kernel_rfl);have k19:=hrs 19 (by kernel_rfl);have k20:=hrs 20 (by kernel_rfl);have k21:=hrs 21 (by kernel_rfl);have k22:=hrs 22 (by kernel_rfl);have k23:=hrs 23 (by kernel_rfl);have k24:=hrs 24 (by kernel_rfl);have k25:=hrs 25 (by kernel_rfl);have k26:=hrs 26 (by kernel_rfl);have k27:=hrs 27 (by kernel_rfl);have k28:=hrs 28 (by kernel_rfl);have k29:=hrs 29 (by kernel_rfl);have k30:=hrs 30 (by kernel_rfl);have k31:=hrs 31 (by kernel_rfl);have k32:=hrs 32 (by kernel_rfl);have k33:=hrs 33 (by kernel_rfl);have k34:=hrs 34 (by kernel_rfl);have k35:=hrs 35 (by kernel_rfl);have k36:=hrs 36 (by kernel_rfl);have k72:=hrs 72 (by kernel_rfl);have k73:=hrs 73 (by kernel_rfl);have k74:=hrs 74 (by kernel_rfl);have k75:=hrs 75 (by kernel_rfl);have k76:=hrs 76 (by kernel_rfl);have k77:=hrs 77 (by kernel_rfl);have k78:=hrs 78 (by kernel_rfl);have k79:=hrs 79 (by kernel_rfl);have k80:=hrs 80 (by kernel_rfl);have k81:=hrs 81 (by kernel_rfl);have k82:=hrs 82 (by kernel_rfl);have k83:=hrs 83 (by kernel_rfl);have k84:=hrs 84 (by kernel_rfl);have k85:=hrs 85 (by kernel_rfl);have k86:=hrs 86 (by kernel_rfl);have k87:=hrs 87 (by kernel_rfl);have k88:=hrs 88 (by kernel_rfl);have k12:=hrs 12 (by kernel_rfl);have k55:f 55=.bool kb:=hdn 8 55 rfl rfl;clear hdn hrs;simp at k0 k1 k2 k3 k4 k5 k6 k7 k8 k9 k10 k11 k15 k16 k17 k18 k19 k20 k21 k22 k23 k24 k25 k26 k27 k28 k29 k30 k31 k32 k33 k34 k35 k36 k72 k73 k74 k75 k76 k77 k78 k79 k80 k81 k82 k83 k84 k85 k86 k87 k88 k12;simp only[List.drop_succ_cons,List.drop_zero];simp[List.range,List.range.loop,k0,k1,k2,k3,k4,k5,k6,k7,k8,k9,k10,k11,k15,k16,k17,k18,k19,k20,k21,k22,k23,k24,k25,k26,k27,k28,k29,k30,k31,k32,k33,k34,k35,k36,k72,k73,k74,k75,k76,k77,k78,k79,k80,k81,k82,k83,k84,k85,k86,k87,k88,k12,k55];clear k0 k1 k2 k3 k4 k5 k6 k7 k8 k9 k10 k11 k15 k16 k17 k18 k19 k20 k21 k22 k23 k24 k25 k26 k27 k28 k29 k30 k31 k32 k33 k34 k35 k36 k72 k73 k74 k75 k76 k77 k78 k79 k80 k81 k82 k83 k84 k85 k86 k87 k88 k12 k55;have HX9:=Hd (HXR.o.trans (Y1.o.trans ea.ext));have HD9:=Hd (BDr.o.ext (Y1.o.trans ea.ext));have HE9:=Hd (BEr.o.ext (Y1.o.trans ea.ext));cases kb with
       |false=>
        have HNO:=Hd (show z6a fl top ps=.error 82 by rw[←HR.o,HRR.o,q8e (fun h=>by have:=yes_no.1 HKB.o.symm;exact this h.2)];rfl);go_wp2_with fail
        go_at_call 35;refine(U2.o _).mono ?_;rintro _ w9 ⟨rfl,rfl⟩;go_wp2_with fail
        refine z2l rfl rfl HD9.o HE9.o (fun w'' hc=>q6d HNO.o ?_);exact hc.ext HX9.o (fun k hk=>by rcases hk with hk|hk<;>omega)
       |true=>
        have HKN:=Hd (show∃b,b∈of.params∧b.name=qn from yes_iff.1 HKB.o.symm);obtain⟨f0,f1⟩:=(BP.o.ext ea.ext).get2;obtain⟨ob,hup,hm9⟩:=(HM.o.ext (Y1.o.trans ea.ext)).put qn qv;obtain⟨W9,hW9⟩:∃W9,W9=z4f ea.w W7.heap.size ob:=⟨_,rfl⟩;rw[←hW9] at hup hm9;have HM9:=Hd hm9;have HC9:=Hd (show Chg (fun k=>k=W7.heap.size) W8 W9 by rw[hW9];exact(HCH.o.trans (Y1.o.trans ea.ext).chg).trans (j2z _ _ _));clear hW9 hm9;by_cases c0:0≤qv
        ·by_cases c1:qv≤2147483647
         ·have hb0:decide (0≤qv)=true:=decide_eq_true c0;have hb1:decide (qv≤2147483647)=true:=decide_eq_true c1;have HR9:=Hd (show R=(do let z4e←z9k of (ps.drop (k+1)) (z3h o qn qv);REST z4e) by rw[HRR.o,j7j ⟨HO.o,HKN.o⟩ ⟨c0,c1⟩]);have HI9:=Hd (show∀nm v,z3h o qn qv nm=some v→z1j v from fun nm v h=>by
           unfold z3h at h;split at h
           ·injection h with h;rw[←h];exact⟨c0,c1⟩
           ·exact HIN.o nm v h)
          go_wp2_with fail
          go_at_call 35;refine(U1.o _).mono ?_;rintro _ w9 ⟨rfl,rfl⟩;go_wp2_with fail
          go_at_call 35;refine(U3.o _).mono ?_;rintro _ w9 ⟨rfl,rfl⟩;go_wp2_with fail
          go_roundw;case rel=>exact⟨k+1,z3h o qn qv,by omega,by go_num,HM9.o,HI9.o,HC9.o,HR9.o⟩
          case measure=>simp[intOf];omega
         ·have hb0:decide (0≤qv)=true:=decide_eq_true c0;have hb1:decide (qv≤2147483647)=false:=decide_eq_false c1;have HNO:=Hd (show z6a fl top ps=.error 62 by rw[←HR.o,HRR.o,q8d ⟨HO.o,HKN.o⟩ (fun h=>c1 h.2)];rfl);go_wp2_with fail
          go_at_call 35;refine(U1.o _).mono ?_;rintro _ w9 ⟨rfl,rfl⟩;go_wp2_with fail
          go_at_call 35;refine(U4.o _).mono ?_;rintro _ w9 ⟨rfl,rfl⟩;go_wp2_with fail
          refine z2l rfl rfl HD9.o HE9.o (fun w'' hc=>q6d HNO.o ?_);exact hc.ext HX9.o (fun k hk=>by rcases hk with hk|hk<;>omega)
        ·have hb0:decide (0≤qv)=false:=decide_eq_false c0;have HNO:=Hd (show z6a fl top ps=.error 62 by rw[←HR.o,HRR.o,q8d ⟨HO.o,HKN.o⟩ (fun h=>c0 h.1)];rfl);go_wp2_with fail
         go_at_call 35;refine(U1.o _).mono ?_;rintro _ w9 ⟨rfl,rfl⟩;go_wp2_with fail
         go_at_call 35;refine(U4.o _).mono ?_;rintro _ w9 ⟨rfl,rfl⟩;go_wp2_with fail
         refine z2l rfl rfl HD9.o HE9.o (fun w'' hc=>q6d HNO.o ?_);exact hc.ext HX9.o (fun k hk=>by rcases hk with hk|hk<;>omega)
    ·have hkl:k=ps.length:=by omega
     subst hkl;have HRR:=Hd (show R=REST o by rw[hR,List.drop_length];rfl);have hcz:=q2u HCC.o.symm;have hcp:=j0j hcz.1;have hMay:=hcp.2.2.2 of hmem;have hsz6:z0x of≤65536:=y1k (z0g z0x fl of hmem) hcp.2.1;have hVM:=HV.o of hmem;obtain⟨W10,hW10,hx10,hb10⟩:=z6v wr (.slice va fl.length vcap) (.slice none 0 0) (.slice none 0 0) (.slice none 0 0) (.int .i64 0) (.int .i64 0) 99;have hV10:=hW10.symm;have X10:=Hd (hxr.trans hx10);have BM10:=Hd hb10;have BD10:=Hd (BDr.o.ext hx10);have BE10:=Hd (BEr.o.ext hx10);have BO10:=Hd (BOr.o.ext hx10);have s10:wr.heap.size<W10.heap.size:=hb10.lt;have f0:=BFr.o.cell 0;simp only[List.getElem?_cons_zero] at f0;obtain⟨g0,g1,g2,g3⟩:=BO10.o.get4
     have KH:=Hd (j3v w B w.heap.size wr.heap.size W10.heap.size W10.heap.size W7.heap.size (.slice va fl.length vcap) (.slice none 0 0) (.slice none 0 0) (.slice none 0 0) of [.string mn,a1,a2,a3] o ⟨#[]⟩ 38 q9r (fun p=>if p.o=true then 2 else 1) noMk W10
      ⟨HT.o,hB,X10.o⟩ HTB.o ⟨hb10,⟨[],World.ownsRow_nil _ _ _ _,Fl.nil⟩,⟨[],World.ownsRow_nil _ _ _ _,Fl.nil⟩,⟨[],World.ownsRow_nil _ _ _ _,Fl.nil⟩,hxr.size⟩ ⟨by decide,by decide,by decide,by decide,by decide,by decide,by decide⟩ (fun g hg=>by cases hg) (y1j _) (HM.o.ext hx10) HIN.o HRM6.o (fun p w' c hx hr=>j9j B p w' c (hr.ext hx hB))
      (fun b hb c hc=>⟨hc,by have h1:=z0g z1c of.params b hb;have h2:z1c b=1+z0l b.x:=rfl;unfold z0x at hsz6;omega,(hVM.2.1 b hb).2⟩)
      (fun p hp c hc=>⟨hc,by have h1:=z0g z3k of.ports p hp;have h2:z3k p=1+z0l p.w:=rfl;unfold z0x at hsz6;omega,(hVM.2.2.1 p hp).2⟩)
      (by have:=z0b z1c of.params z1z;unfold z0x at hsz6;omega) (by have:=z0b z3k of.ports z9y;unfold z0x at hsz6;omega) (fun p hp=>by have:=(hMay.2.2.1 p hp).1.2.1;omega) (by decide))
     clear hR hm hin hch ht hW10 hx10 hb10 hxr;go_wp2_with fail
     go_at_call 37;refine KH.o.mono ?_;rintro e w11 (⟨hh,u,hr,rfl,nb,ng,rfl,hnb,hng,hec,hfr,hpa,hel⟩|⟨c,hr,rfl,hfr⟩);rotate_left
     ·have HNO:=Hd (show z6a fl top ps=.error c by rw[←HR.o,HRR.o,HREST.o];simp only[bind,Except.bind];rw[hr]);have hd:=Hd (hfr.blk BD10.o ⟨by decide,by decide,by decide⟩ (by omega) (by omega) (by omega));have he:=Hd (hfr.blk BE10.o ⟨by decide,by decide,by decide⟩ (by omega) (by omega) (by omega));have hx:=Hd (hfr.ext X10.o (y1j _) (by omega) (by omega) (by omega));clear hfr hr;go_wp2_with fail
      refine z2l rfl rfl hd.o he.o (fun w'' hc=>q6d HNO.o ?_);exact hc.ext hx.o (fun k hk=>by rcases hk with hk|hk<;>omega)
     have hfq:FrQ w.heap.size wr.heap.size W10 w11:=hfr;have BO11:=Hd (hfq.blk BO10.o ⟨by decide,by decide,by decide⟩ (by omega));have BD11:=Hd (hfq.blk BD10.o ⟨by decide,by decide,by decide⟩ (by omega));have BE11:=Hd (hfq.blk BE10.o ⟨by decide,by decide,by decide⟩ (by omega));have X11:=Hd ((hfr W10.heap.size W10.heap.size).ext X10.o (y1j _) (by omega) (by omega) (by omega));have s11:W10.heap.size≤w11.heap.size:=hfq.size;have HPS:=Hd (show hh.1.path.size+100*(fl.length*70000+z0e z0i of.items)≤1000000000 from by
      have h1:hh.1.path.size=0:=by rw[hpa];rfl
      have h2:=hcp.1;unfold z0x at hsz6;omega)
     have KI:=Hd (j5r w B w.heap.size wr.heap.size va vcap fl HS.o (by omega) (fun m hm=>⟨HV.o m hm,hcp.2.2.2 m hm,y1k (z0g z0x fl m hm) hcp.2.1⟩) fl.length of.items (k6m HCC.o.symm hmem) (fun t ht=>⟨hVM.2.2.2 t ht,hMay.2.2.2 t ht,by have:=z0g z0i of.items t ht;unfold z0x at hsz6;omega⟩) nb ng hh.2 hh.1 w11 a3 hec
      (by have:=z0b z1c of.params z1z;unfold z0x at hsz6;omega) HPS.o HQ3.o)
     have HRH:=Hd hr;clear hr hfr hfq hec hpa hel KH g0 g1 g2 g3 f0;obtain⟨g0,g1,g2,g3⟩:=BO11.o.get4;go_wp2_with fail
     go_at_call 39;refine KI.o.mono ?_;rintro e w13 (⟨y,u,hr,rfl,hu,hec,hfr,hel,hpe⟩|⟨c,hr,rfl,hfr⟩);rotate_left
     ·have HNO:=Hd (show z6a fl top ps=.error c by rw[←HR.o,HRR.o,HREST.o];simp only[bind,Except.bind];rw[HRH.o];simp only;rw[hr]);have hd:=Hd (hfr.blk BD11.o ⟨by decide,by decide,by decide⟩ (by omega) (by omega) (by omega));have he:=Hd (hfr.blk BE11.o ⟨by decide,by decide,by decide⟩ (by omega) (by omega) (by omega));have hx:=Hd (hfr.ext X11.o (y1j _) (by omega) (by omega) (by omega));clear hfr hr;go_wp2_with fail
      refine z2l rfl rfl hd.o he.o (fun w'' hc=>q6d HNO.o ?_);exact hc.ext hx.o (fun k hk=>by rcases hk with hk|hk<;>omega)
     subst hu;have HRES:=Hd (show z6a fl top ps=.ok y.2.d by rw[←HR.o,HRR.o,HREST.o];simp only[bind,Except.bind];rw[HRH.o];simp only;rw[hr];rfl);obtain⟨us,up,uc,ue,hk13,hs13⟩:=hec.ex;have BD13:=Hd (hfr.blk BD11.o ⟨by decide,by decide,by decide⟩ (by omega) (by omega) (by omega));have BE13:=Hd (hfr.blk BE11.o ⟨by decide,by decide,by decide⟩ (by omega) (by omega) (by omega));have X13:=Hd (hfr.ext X11.o (y1j _) (by omega) (by omega) (by omega));have HK13:=Hd hk13;have s13:w11.heap.size≤w13.heap.size:=hfr.size;clear hr hec hfr hel hpe hk13 hs13 KI g0 g1 g2 g3;have hnm:wr.heap.size≠W1.heap.size:=by omega
     have ou:=HK13.o.sig.form;obtain⟨usa,usc,rfl⟩:=ou;obtain⟨upa,upc,rfl⟩:=HK13.o.prc.form;obtain⟨uca,ucc,rfl⟩:=HK13.o.chk.form;go_wp2_with fail
     refine z1y 6 (eqS [5] [.pointer (some ⟨wr.heap.size,0,none⟩),.pointer (some ⟨wr.heap.size,0,none⟩),.pointer (some ⟨wr.heap.size,1,none⟩),.agg #[.slice usa y.2.d.sigs.length usc,.slice upa y.2.d.procs.length upc,.slice uca y.2.d.chks.length ucc],.int .i64 0,undef]) (chJ [(5,fun τ w'=>Blk w' W1.heap.size 50 [.slice none 0 0,.slice none 0 0,.slice none 0 0]∧Chg (fun k=>k=W1.heap.size) w13 w')] (fun τ w'=>Blk w' W1.heap.size 50 [.slice usa y.2.d.sigs.length usc,.slice upa y.2.d.procs.length upc,.slice uca y.2.d.chks.length ucc]∧Chg (fun k=>k=W1.heap.size) w13 w')) (fun _ _=>False) (by kernel_rfl) (fun _ _ _ _ h=>h) (by kernel_rfl) (by kernel_rfl) ?_ (z6u _ ⟨BD13.o,(y1u _ w13).drew⟩) ?_ (fun A ch w hd hp=>hp.elim) ?_
     ·simp[GuardsMet]
     ·refine⟨?_,?_,?_,?_,?_,?_,trivial⟩;rotate_left 5
      ·refine StepI.chain 0 rfl (by kernel_rfl) (by kernel_rfl) ?_;intro A wa hsz hj hd h0;have q3:=z0d hd 3 87 (by kernel_rfl) rfl;simp[eqS] at q3;have r6:=z0c h0 6 (by kernel_rfl);simp at r6;replace hj:Blk wa W1.heap.size 50 [.slice none 0 0,.slice none 0 0,.slice none 0 0]∧Chg (fun k=>k=W1.heap.size) w13 wa:=hj;obtain⟨hb,hcg⟩:=hj;obtain⟨k0,k1,k2⟩:=hb.get3;obtain⟨l0,l1,l2⟩:=hb.free3;have HQ:=Hd (y1x (hb.store3 (.slice usa y.2.d.sigs.length usc) (.slice upa y.2.d.procs.length upc) (.slice uca y.2.d.chks.length ucc)) (((hcg.setCell (p:=⟨W1.heap.size,0,none⟩) rfl (.slice usa y.2.d.sigs.length usc)).setCell (p:=⟨W1.heap.size,1,none⟩) rfl (.slice upa y.2.d.procs.length upc)).setCell (p:=⟨W1.heap.size,2,none⟩) rfl (.slice uca y.2.d.chks.length ucc)));clear hd h0 hb hcg hsz;go_simp;first|exact⟨undef,rfl,trivial,HQ.o⟩|exact⟨trivial,HQ.o⟩|exact HQ.o|exact⟨undef,trivial,HQ.o⟩|exact⟨⟨undef,trivial⟩,HQ.o⟩
      all_goals
       refine StepI.plain (S:=[5]) (T:=[]) (I:=Chg (fun k=>k=W1.heap.size) w13) (z5k (T:=[]) (fun τ τ' w hT hj=>hj) _ ⟨fun τ τ' w hT hj=>hj,trivial⟩) (fun L τ w h=>q2b (I:=Chg (fun k=>k=W1.heap.size) w13) h (fun _ _ h=>h.2) ⟨fun _ _ h=>h.2,trivial⟩) (by decide) (by decide) ?_;intro A wa hI hd h0;try (have q0:=z0d hd 0 84 (by decide) rfl;simp[eqS] at q0)
       try (have q1:=z0d hd 1 85 (by decide) rfl;simp[eqS] at q1)
       try (have q2:=z0d hd 2 86 (by decide) rfl;simp[eqS] at q2)
       have r15:=z0c h0 15 (by kernel_rfl);simp at r15;have r7:=z0c h0 7 (by kernel_rfl);simp at r7;obtain⟨x0,x1,x2,x3,x4,x5⟩:=(hI.blk HK13.o.blk hnm).get6;have i0:=(hI.blk BE13.o (show¬W2.heap.size=W1.heap.size from fun e=>hde e.symm)).cell 0;try simp only[List.getElem?_cons_succ,List.getElem?_cons_zero] at i0
       clear hd h0 hI;go_simp;first|exact⟨_,rfl,rfl,rfl⟩|exact⟨_,rfl,rfl⟩|exact⟨rfl,rfl⟩|exact rfl
     ·intro A wa hk;obtain⟨f,rfl,hdn,hrs,hj⟩:=hk.fin (n:=89) rfl;replace hj:(fun τ w'=>Blk w' W1.heap.size 50 [.slice usa y.2.d.sigs.length usc,.slice upa y.2.d.procs.length upc,.slice uca y.2.d.chks.length ucc]∧Chg (fun k=>k=W1.heap.size) w13 w') f wa:=z9r _ rfl hj;have k88:f 88=.int .i64 0:=hdn 4 88 rfl rfl;have k6:=hrs 6 (by kernel_rfl);have k7:=hrs 7 (by kernel_rfl);simp at k6 k7;clear hdn hrs;simp only[List.drop_succ_cons,List.drop_zero];simp[List.range,List.range.loop,k88,k6,k7];clear k88 k6 k7;obtain⟨hb,hcg⟩:=hj;have he5:=hcg.blk BE13.o (show¬W2.heap.size=W1.heap.size from fun e=>hde e.symm);have j0:=he5.cell 0;simp only[List.getElem?_cons_zero] at j0;have j1:=he5.frozen 0;obtain⟨W9,hW9⟩:∃W9,W9=wa.setCell ⟨W2.heap.size,0,none⟩ (.int .i64 0):=⟨_,rfl⟩;have hV9:=hW9.symm;have hb9:=Hd (show Blk W9 W1.heap.size 50 [.slice usa y.2.d.sigs.length usc,.slice upa y.2.d.procs.length upc,.slice uca y.2.d.chks.length ucc] by rw[hW9];exact hb.far hde _);have he9:=Hd (show Blk W9 W2.heap.size 51 [.int .i64 0] by rw[hW9];exact he5.store1 (.int .i64 0));have hcg9:Chg (fun k=>k=W1.heap.size∨k=W2.heap.size) w13 W9:=by
       rw[hW9];exact(hcg.mono (fun _ _ h=>.inl h)).setCell (p:=⟨W2.heap.size,0,none⟩) (.inr rfl) _
      have hx9:Ext w W9:=hcg9.ext X13.o (fun k hk=>by rcases hk with hk|hk<;>omega);have HF:=Hd (show ElR fl top ps w (.returned (.tuple #[.agg #[.slice usa y.2.d.sigs.length usc,.slice upa y.2.d.procs.length upc,.slice uca y.2.d.chks.length ucc],.int .i64 0])) W9 from by
       have hd:z4b fl top ps=(y.2.d,0):=by unfold z4b;rw[HRES.o]
       refine⟨_,_,_,by rw[hd],?_,hx9⟩;rw[hd];exact DsnV.keep HK13.o (fun g T hT hg=>hcg9.block g hg.lt (fun e=>by
        rcases e with e|e
        ·have:=hg.one (show Tag w13 g _ from e▸BD13.o.tag);rcases hT with rfl|rfl|rfl|rfl|rfl|rfl<;>exact absurd this (by decide)
        ·have:=hg.one (show Tag w13 g _ from e▸BE13.o.tag);rcases hT with rfl|rfl|rfl|rfl|rfl|rfl<;>exact absurd this (by decide))))
      clear hb hcg he5 hW9 hx9 hcg9;go_wp2_with fail
      exact q9z rfl rfl hb9.o he9.o HF.o
 ·have h1:(cc !=0)=true:=bne_iff_ne.2 hc;have HRES:=Hd (show z4b fl top ps=(⟨[],[],[]⟩,cc) by unfold z4b z6a;rw[if_pos (by rw[←HCC.o];exact hc),←HCC.o]);have hde:W1.heap.size≠W2.heap.size:=by omega
  go_wp2_with fail
  refine z1y 3 (eqS [2] [.agg #[.slice none 0 0,.slice none 0 0,.slice none 0 0],.int .i64 cc,undef]) (chJ [(2,fun τ w'=>Blk w' W1.heap.size 50 [.slice none 0 0,.slice none 0 0,.slice none 0 0]∧Chg (fun k=>k=W1.heap.size) W5 w')] (fun τ w'=>Blk w' W1.heap.size 50 [.slice none 0 0,.slice none 0 0,.slice none 0 0]∧Chg (fun k=>k=W1.heap.size) W5 w')) (fun _ _=>False) (by kernel_rfl) (fun _ _ _ _ h=>h) (by kernel_rfl) (by kernel_rfl) ?_ (z6u _ ⟨BD5.o,(y1u _ W5).drew⟩) ?_ (fun A ch w hd hp=>hp.elim) ?_
  ·simp[GuardsMet]
  ·refine⟨?_,?_,?_,trivial⟩;rotate_left 2
   ·refine StepI.chain 0 rfl (by kernel_rfl) (by kernel_rfl) ?_;intro A wa hsz hj hd h0;have q0:=z0d hd 0 21 (by kernel_rfl) rfl;simp[eqS] at q0;have r0:=z0c h0 6 (by kernel_rfl);simp at r0;replace hj:Blk wa W1.heap.size 50 [.slice none 0 0,.slice none 0 0,.slice none 0 0]∧Chg (fun k=>k=W1.heap.size) W5 wa:=hj;obtain⟨hb,hcg⟩:=hj;obtain⟨k0,k1,k2⟩:=hb.get3;obtain⟨l0,l1,l2⟩:=hb.free3;have HQ:=Hd (y1x (hb.store3 (.slice none 0 0) (.slice none 0 0) (.slice none 0 0)) (((hcg.setCell (p:=⟨W1.heap.size,0,none⟩) rfl (.slice none 0 0)).setCell (p:=⟨W1.heap.size,1,none⟩) rfl (.slice none 0 0)).setCell (p:=⟨W1.heap.size,2,none⟩) rfl (.slice none 0 0)));clear hd h0 hb hcg hsz;go_simp;first|exact⟨undef,rfl,trivial,HQ.o⟩|exact⟨trivial,HQ.o⟩|exact HQ.o|exact⟨undef,trivial,HQ.o⟩|exact⟨⟨undef,trivial⟩,HQ.o⟩
   all_goals
    refine StepI.plain (S:=[2]) (T:=[]) (I:=fun w'=>Blk w' W1.heap.size 50 [.slice none 0 0,.slice none 0 0,.slice none 0 0]∧Chg (fun k=>k=W1.heap.size) W5 w') (z5k (T:=[]) (fun τ τ' w hT hj=>hj) _ ⟨fun τ τ' w hT hj=>hj,trivial⟩) (fun L τ w h=>q2b (I:=fun w'=>Blk w' W1.heap.size 50 [.slice none 0 0,.slice none 0 0,.slice none 0 0]∧Chg (fun k=>k=W1.heap.size) W5 w') h (fun _ _ h=>h) ⟨fun _ _ h=>h,trivial⟩) (by decide) (by decide) ?_;intro A wa hI hd h0;have r6:=z0c h0 6 (by kernel_rfl);simp at r6;have r7:=z0c h0 7 (by kernel_rfl);simp at r7;obtain⟨k0,k1,k2⟩:=hI.1.get3;have i0:=(hI.2.blk BE5.o (show¬W2.heap.size=W1.heap.size from fun e=>hde e.symm)).cell 0;try simp only[List.getElem?_cons_succ,List.getElem?_cons_zero] at i0
    clear hd h0 hI;go_simp;first|exact⟨_,rfl,rfl,rfl⟩|exact⟨_,rfl,rfl⟩|exact⟨rfl,rfl⟩|exact rfl
  ·intro A wa hk;obtain⟨f,rfl,hdn,hrs,hj⟩:=hk.fin (n:=89) rfl;replace hj:(fun τ w'=>Blk w' W1.heap.size 50 [.slice none 0 0,.slice none 0 0,.slice none 0 0]∧Chg (fun k=>k=W1.heap.size) W5 w') f wa:=z9r _ rfl hj;have k22:f 22=.int .i64 cc:=hdn 1 22 rfl rfl;have k6:=hrs 6 (by kernel_rfl);have k7:=hrs 7 (by kernel_rfl);simp at k6 k7;clear hdn hrs;simp only[List.drop_succ_cons,List.drop_zero];simp[List.range,List.range.loop,k22,k6,k7];clear k22 k6 k7;obtain⟨hb,hcg⟩:=hj;have he5:=hcg.blk BE5.o (show¬W2.heap.size=W1.heap.size from fun e=>hde e.symm);have j0:=he5.cell 0;simp only[List.getElem?_cons_zero] at j0;have j1:=he5.frozen 0;obtain⟨W9,hW9⟩:∃W9,W9=wa.setCell ⟨W2.heap.size,0,none⟩ (.int .i64 cc):=⟨_,rfl⟩;have hV9:=hW9.symm;have hb9:Blk W9 W1.heap.size 50 [.slice none 0 0,.slice none 0 0,.slice none 0 0]:=by rw[hW9];exact hb.far hde _
   have he9:Blk W9 W2.heap.size 51 [.int .i64 cc]:=by rw[hW9];exact he5.store1 (.int .i64 cc)
   obtain⟨i0,i1,i2⟩:=hb9.get3;have i3:=he9.cell 0;simp only[List.getElem?_cons_zero] at i3;have hx9:Ext w W9:=by
    rw[hW9];exact(hcg.ext X5.o (fun k hk=>by have:k=W1.heap.size:=hk;omega)).setCell (p:=⟨W2.heap.size,0,none⟩) (by show w.heap.size≤W2.heap.size;omega) _
   have HF:=Hd (show ElR fl top ps w (.returned (.tuple #[.agg #[.slice none 0 0,.slice none 0 0,.slice none 0 0],.int .i64 cc])) W9 from⟨_,_,_,by rw[HRES.o],by rw[HRES.o];exact DsnV.none_ _ _,hx9⟩);clear hb hcg he5 hb9 he9 hW9 hx9;go_wp2_with fail
   simp[bodyPostD,Leaves,settle,results,results15,go_sem,i0,i1,i2,i3];exact HF.o
end Go.Proofs.YtlfmlodanoolhaaGreatDoor
