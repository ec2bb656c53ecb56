import Derived.Test.YtlfmlodanoolhaaGreatDoorE40
import Derived.Test.YtlfmlodanoolhaaGreatDoorE6
set_option linter.all false
set_option maxRecDepth 200000
set_option maxHeartbeats 32000000
namespace Go.Proofs.YtlfmlodanoolhaaGreatDoor
open Go Go.RowKit Go.Proofs.Tryz
attribute [local go_sem] z0f
def eqS(S:List Nat)(vals:List Value)(i:Nat)(v:Value)(_:World):Prop:=if S.contains i=true then True else v=vals.getD i undef
def k2d(W:World)(mp:Nat)(path:ByteArray)(env:List (ByteArray×Int))(vals:List Value)(i:Nat)(v:Value)(w:World):Prop:=
 if i=6 then∃ve,v=.agg #[ve,.map (some mp),.string path]∧SlT 85 RNm w 2 env ve
 else if i=7 then∃g,v=.pointer (some ⟨g,0,none⟩)∧W.heap.size≤g∧Blk w g 126 [.slice none 0 0,.map none,.string ⟨#[]⟩]
 else v=vals.getD i undef
theorem k4x{W:World}{mp:Nat}{path:ByteArray}{env:List (ByteArray×Int)}{vals:List Value}{i:Nat}{v:Value}{w w':World}(h:k2d W mp path env vals i v w)(hx:Ext w w'):k2d W mp path env vals i v w':=by
 unfold k2d at h⊢;split
 ·rename_i hi;rw[if_pos hi] at h;obtain⟨ve,h1,h2⟩:=h;exact⟨ve,h1,h2.keep (.inr (.inr rfl)) hx.kp (fun _ _ _ h=>h)⟩
 rename_i hi
 rw[if_neg hi] at h;split
 ·rename_i hi;rw[if_pos hi] at h;obtain⟨g,h1,h2,h3⟩:=h;exact⟨g,h1,h2,h3.ext hx⟩
 ·rename_i hi;rw[if_neg hi] at h;exact h
structure LpI(w0:World)(N N0 mb sb gm gs gx gt gk gr:Nat)(vf vs vp vc:Value)(clk:Bool)(x:S)(v2 v3:Value)(m:Mk)(a:List DT×Mk)(w:World):Prop where
 fr:FrS mb w0 w
 mk_:MkI w N0 mb vf vs vp vc a.2
 cn:CntM m a.2
 bm:Blk w gm 97 [.pointer (some ⟨mb,0,none⟩)]
 bs:Blk w gs 100 [.pointer (some ⟨sb,0,none⟩)]
 bx:Blk w gx 177 [.int .i64 x.op,.string x.name,v2,v3]
 bk:Blk w gk 4 [.bool clk]
 row:∃v5,Blk w gt 73 [.int .i64 5,.int .i64 0,.int .i64 0,.int .i64 0,.slice none 0 0,v5]∧OwnT N a.1 v5 w
 sz:N≤w.heap.size
 len:(a.1.length:Int)≤a.2.count
 br:Blk w gr 73 [.int .i64 0,.int .i64 0,.int .i64 0,.int .i64 0,.slice none 0 0,.slice none 0 0]
def k5k(D:Rs (List DT×Mk))(N0 mb:Nat)(vf vs vp vc:Value)(m:Mk)(W:World)(u:Value)(w:World):Prop:=
 ∃r,D=.ok r∧SlT9 (fun b=>W.heap.size≤b) w r.1 u∧MkI w N0 mb vf vs vp vc r.2∧FrS mb W w∧CntM m r.2
theorem StC.con{W0 w w':World}{B N0 mb sb mp g:Nat}{vf vs vp vc ve ve':Value}{m:Mk}{s:Sc}(h:StC W0 B N0 mb sb mp vf vs vp vc ve m s w)(hx:Ext w w'){nm:ByteArray}{v:Int}(hb:Blk w' g 126 [ve',.map (some mp),.string s.path])(he:SlT 85 RNm w' 2 (s.env++[(nm,v)]) ve')(hv:z1j v)(hl:s.env.length+1≤1000000):
 StC W0 B N0 mb g mp vf vs vp vc ve' m (s.con nm v) w':=by
 have h':=h.ext hx;refine⟨h'.cx,h'.mk_,⟨hb,he,h'.sc.map⟩,⟨h.gd.at_,h.gd.w,by show(s.env++[(nm,v)]).length≤_;rw[List.length_append];exact hl,fun p hp=>?_⟩,h.c0,h.c1,h.lo⟩;rcases y2e.1 (show p∈s.env++[(nm,v)] from hp) with hp|hp
 ·exact h.gd.const p hp
 ·rw[List.mem_singleton.1 hp];exact hv
theorem MkI.one{w:World}{N0 mb:Nat}{vf vs vp vc vf' vs' vp' vc':Value}{m m':Mk}(h:MkI w N0 mb vf vs vp vc m)(k:MkI w N0 mb vf' vs' vp' vc' m'):vf'=vf∧vs'=vs∧vp'=vp∧vc'=vc:=by
 have e:=h.blk.symm.trans k.blk;injection e with e;injection e with e;have e:=List.cons.inj (Array.mk.inj e);have e2:=List.cons.inj e.2;have e3:=List.cons.inj e2.2;have e4:=List.cons.inj e3.2;exact⟨e.1.symm,e2.1.symm,e3.1.symm,e4.1.symm⟩
theorem j9e{W0 w0:World}{B N N0 mb sb mp gm gs gx gt gk gr:Nat}{vf vs vp vc ve:Value}{clk:Bool}{x:S}{v2 v3:Value}{m:Mk}{s:Sc}(h:StC W0 B N0 mb sb mp vf vs vp vc ve m s w0)(hN:mb<w0.heap.size)
 (h1:w0.heap.size≤gm∧gm<N) (h2:w0.heap.size≤gs∧gs<N) (h3:w0.heap.size≤gx∧gx<N) (h4:w0.heap.size≤gt∧gt<N) (h5:w0.heap.size≤gk∧gk<N) (h6:w0.heap.size≤gr∧gr<N):PassI W0 B N0 mb sb mp s (LpI w0 N N0 mb sb gm gs gx gt gk gr vf vs vp vc clk x v2 v3 m) Prod.snd (fun a m'=>(a.1,m')) (FrS mb w0) where
 ctx a w hj:=⟨vf,vs,vp,vc,ve,h.frS hj.fr hj.mk_ hj.cn⟩
 ext a w w' hj hx:=by
  obtain⟨v5,b5,o5⟩:=hj.row;exact⟨hj.fr.trans hx.chg,hj.mk_.ext hx,hj.cn,hj.bm.ext hx,hj.bs.ext hx,hj.bx.ext hx,hj.bk.ext hx,⟨v5,b5.ext hx,o5.later hx⟩,y1k hj.sz hx.size,hj.len,hj.br.ext hx⟩
 cnt a w w' vf' vs' vp' vc' m' hj hk hk' hf hc:=by
  obtain⟨rfl,rfl,rfl,rfl⟩:=hj.mk_.one hk;obtain⟨v5,b5,o5⟩:=hj.row;have hl:=hj.len;have hcc:a.2.count≤m'.count:=by obtain⟨n,h1,h2,-⟩:=hc;rw[h1];exact h2
  exact⟨hj.fr.trans hf,hk',hj.cn.trans hc,hf.blk hj.bm (show¬gm=mb by omega),hf.blk hj.bs (show¬gs=mb by omega),hf.blk hj.bx (show¬gx=mb by omega),hf.blk hj.bk (show¬gk=mb by omega),
   ⟨v5,hf.blk b5 (show¬gt=mb by omega),o5.chg hf (fun b hb=>by have:b=mb:=hb;omega)⟩,y1k hj.sz hf.size,by show(a.1.length:Int)≤m'.count;omega,hf.blk hj.br (show¬gr=mb by omega)⟩
 bad a w w' hj hf:=hj.fr.trans hf
theorem j8o{body:Int→Mk→Rs (List DT×Mk)}:∀(n:Nat) (v:Int) (acc:List DT) (m:Mk),z9e (σ:=List DT×Mk) Prod.snd (fun a m'=>(a.1,m')) (fun v a=>do let y←body v a.2;return(a.1++y.1,y.2)) n v (acc,m)=(do let z←q8o body n v m;return(acc++z.1,z.2))
 |0,v,acc,m=>by simp[z9e,q8o,bind,Except.bind,pure,Except.pure]
 |n+1,v,acc,m=>by
  simp only[z9e,q8o,bind,Except.bind,pure,Except.pure];cases z7a 1 m with
  |error e=>rfl
  |ok m1=>
   simp only[];cases body v m1 with
   |error e=>rfl
   |ok y=>
    simp only[];have:=j8o (body:=body) n (v+1) (acc++y.1) y.2;simp only[bind,Except.bind,pure,Except.pure] at this;rw[this];cases q8o body n (v+1) y.2 with
    |error e=>rfl
    |ok z=>simp
theorem j7s(W0 w0:World)(B N N0 mb sb mp gm gs gx gt gk gr:Nat)(vf vs vp vc ve:Value)(clk:Bool)(m:Mk)(s:Sc)(x:S)(v2 v3:Value)(h:StC W0 B N0 mb sb mp vf vs vp vc ve m s w0)(hK:SlK W0 B mb w0 x.l v3)(hln:s.env.length+z0p x≤1000000)
 (hf:∀y,y∈x.l→z5m W0 B N0 mb vf vs vp vc clk 149 (z1t clk) y)
 (h1:w0.heap.size≤gm∧gm<N) (h2:w0.heap.size≤gs∧gs<N) (h3:w0.heap.size≤gx∧gx<N) (h4:w0.heap.size≤gt∧gt<N) (h5:w0.heap.size≤gk∧gk<N) (h6:w0.heap.size≤gr∧gr<N) (hd:gm≠gt∧gs≠gt∧gx≠gt∧gk≠gt∧gr≠gt) (o2:v2.oneCell'=true)
 (v:Int) (hv:z1j v) (a:List DT×Mk) (w:World) (hJ:LpI w0 N N0 mb sb gm gs gx gt gk gr vf vs vp vc clk x v2 v3 m a w):
 Calls Tryz.prog 185 #[.int .i64 v,.pointer (some ⟨gs,0,none⟩),.pointer (some ⟨gx,0,none⟩),.pointer (some ⟨gt,0,none⟩),.pointer (some ⟨gm,0,none⟩),.pointer (some ⟨gk,0,none⟩)] w
  (RunsP (do let y←z2b clk (s.con x.name v) x.l a.2;return(a.1++y.1,y.2)) (fun a' u w'=>u=z1w∧LpI w0 N N0 mb sb gm gs gx gt gk gr vf vs vp vc clk x v2 v3 m a' w') (FrS mb w0)):=by
 have H:=Hd h;have HK:=Hd hK;have HF:=Hd hf;have HJ:=Hd hJ;have hmw:=h.mk_.blk.lt;have hsz:=hJ.sz;obtain⟨v5,hbt,hown⟩:=hJ.row;obtain⟨sa,sc,rfl⟩:=hown.form;have HBT:=Hd hbt;have HOW:=Hd hown;have H1:=Hd (h.frS hJ.fr hJ.mk_ hJ.cn);have hs0:s.env.length+1+z0e z0p x.l≤1000000:=by rw[z0w] at hln;omega
 have hin:=Hd hv;have o3:=hK.oneCell;have ov:=H1.o.sc.env.oneCell;have a1:=cellAt (hJ.bs.cell 0);have a2:=cellAt (hJ.bx.cell 1);have a3:=cellAt (H1.o.sc.blk.cell 0);have a4:=cellAt (H1.o.sc.blk.cell 1);have a5:=cellAt (H1.o.sc.blk.cell 2);have KC:=Hd (fun(w':World) (hw:Ext w w')=>z4r s ve (.map (some mp)) x.name v w' ((H1.o.ext hw).sc.env) rfl (by omega));clear h hK hf hJ hbt hown hln hv;go_enter func185,ntmps185;go_wp2_with fail
 refine z0m 8 (W:=w) (Ext) (k2d w mp s.path (s.env++[(x.name,v)]) [.pointer (some ⟨sb,0,none⟩),.pointer (some ⟨sb,0,none⟩),.agg #[ve,.map (some mp),.string s.path],.pointer (some ⟨gx,1,none⟩),.string x.name,.int .i64 v,undef,undef]) (fun _ _=>False) (fun _=>true) (by kernel_rfl) (z0s) (by kernel_rfl) (by kernel_rfl) ?_ (y1g _) (fun i v w w' h hx=>k4x h hx) ?_ (fun A ch w hd hp=>hp.elim) ?_
 ·exact⟨rfl,rfl,rfl,rfl,rfl,rfl,rfl,rfl,trivial⟩
 ·refine⟨?_,?_,?_,?_,?_,?_,?_,?_,trivial⟩;rotate_left 6
  ·intro A wa hxa hd h0;obtain⟨ea,rfl⟩:=y1h hxa;have q2:=z0d hd 2 10 (by kernel_rfl) rfl;simp[k2d] at q2;have q4:=z0d hd 4 12 (by kernel_rfl) rfl;simp[k2d] at q4;have q5:=z0d hd 5 13 (by kernel_rfl) rfl;simp[k2d] at q5;clear hd h0;go_simp;refine(KC.o ea.w ea.ext).mono ?_;rintro e w3 ⟨ve',rfl,hsl,hxe⟩;have HSL:=Hd hsl;clear hsl;go_simp;first|exact⟨_,rfl,hxe,ve',rfl,HSL.o⟩|exact⟨hxe,ve',rfl,HSL.o⟩|exact⟨_,rfl,ve',rfl,HSL.o⟩
  ·intro A wa hxa hd h0;obtain⟨ea,rfl⟩:=y1h hxa;clear hd h0;obtain⟨W7,hW7,hx7,hb7⟩:=k1n ea.w (.slice none 0 0) (.map none) (.string ⟨#[]⟩) 126;have hV7:=hW7.symm;have HG7:=Hd (y1x hx7 hb7);clear hW7 hx7 hb7;go_simp;first|exact⟨_,rfl,HG7.o.1,_,rfl,ea.ext.size,HG7.o.2⟩
  all_goals
   intro A wa hxa hd h0;obtain⟨ea,rfl⟩:=y1h hxa;try (have q0:=z0d hd 0 8 (by decide) rfl;simp[k2d] at q0)
   try (have q1:=z0d hd 1 9 (by decide) rfl;simp[k2d] at q1)
   try (have q3:=z0d hd 3 11 (by decide) rfl;simp[k2d] at q3)
   have r1:=z0c h0 1 (by kernel_rfl);simp at r1;have r2:=z0c h0 2 (by kernel_rfl);simp at r2;have r0:=z0c h0 0 (by kernel_rfl);simp at r0;clear hd h0;go_simp;first|exact⟨_,rfl,y1g _,rfl⟩|exact⟨y1g _,rfl⟩|exact rfl|exact⟨_,rfl,rfl⟩|exact y1g _
 ·intro A wa hk;obtain⟨f,rfl,hxa,hdn,hrs⟩:=hk.fin (n:=24) rfl;obtain⟨ea,rfl⟩:=y1h hxa;have k0:=hrs 0 (by kernel_rfl);have k1:=hrs 1 (by kernel_rfl);have k2:=hrs 2 (by kernel_rfl);have k3:=hrs 3 (by kernel_rfl);have k4:=hrs 4 (by kernel_rfl);have k5:=hrs 5 (by kernel_rfl);obtain⟨ve',k14,he⟩:=hdn 6 14 rfl rfl;obtain⟨g,k7,hg1,hg2⟩:=hdn 7 7 rfl rfl;clear hdn hrs;simp at k0 k1 k2 k3 k4 k5;simp only[List.drop_succ_cons,List.drop_zero];simp[List.range,List.range.loop,k0,k1,k2,k3,k4,k5,k14,k7];clear k0 k1 k2 k3 k4 k5 k14 k7;obtain⟨z0,z1,z2⟩:=hg2.free3;obtain⟨y0,y1,y2⟩:=hg2.get3;obtain⟨W5,hW5⟩:∃W5,W5=((ea.w.setCell ⟨g,0,none⟩ ve').setCell ⟨g,1,none⟩ (.map (some mp))).setCell ⟨g,2,none⟩ (.string s.path):=⟨_,rfl⟩;have hV5:=hW5.symm;have hx5:Ext w W5:=by rw[hW5];exact((ea.ext.setCell hg1 _).setCell hg1 _).setCell hg1 _
  have hb5:Blk W5 g 126 [ve',.map (some mp),.string s.path]:=by rw[hW5];exact hg2.store3 _ _ _
  have hc5:Chg (fun b=>b=g) ea.w W5:=by rw[hW5];exact(((y1y (X:=fun b=>b=g) (y1u _ ea.w) (p:=⟨g,0,none⟩) rfl _).setCell (p:=⟨g,1,none⟩) rfl _).setCell (p:=⟨g,2,none⟩) rfl _)
  have he5:SlT 85 RNm W5 2 (s.env++[(x.name,v)]) ve':=he.keep (.inr (.inr rfl)) (hc5.kp (fun b hb _=>⟨_,hb▸hg2.tag,by unfold j0q;decide⟩)) (fun _ _ _ h=>h);have oe:=he.oneCell;have H5:=Hd (H1.o.con hx5 hb5 he5 hin.o (by omega));have X5:=Hd hx5;clear hW5 hx5 hb5 hc5 he5 hg2 he hg1;go_wp2_with fail
  clear a1 a2 a3 a4 a5;refine z1y 7 (eqS [6] [.pointer (some ⟨gt,5,none⟩),.slice sa a.1.length sc,.pointer (some ⟨mb,0,none⟩),.pointer (some ⟨gx,3,none⟩),v3,.bool clk,undef]) (phJ 6 21 (fun wz=>Ext W5 wz) (k5k (z2b clk (s.con x.name v) x.l a.2) N0 mb vf vs vp vc a.2 W5)) (fun ch wz=>∃c,(do let y←z2b clk (s.con x.name v) x.l a.2;return(a.1++y.1,y.2):Rs (List DT×Mk))=.error c∧ch=z2c c∧FrS mb W5 wz) (by kernel_rfl) (fun _ _ _ _ h=>h) (by kernel_rfl) (by kernel_rfl) ?_ ((y1g _).drew) ?_ (fun A ch wz hd hp=>by
   obtain⟨c,hr,rfl,hx⟩:=hp;obtain⟨tA,dA⟩:=A;simp only at hd;subst hd;exact⟨rfl,.no hr ((HJ.o.fr.trans X5.o.chg).trans hx)⟩) ?_
  ·simp[GuardsMet]
  ·refine⟨?_,?_,?_,?_,?_,?_,?_,trivial⟩;rotate_left 6
   ·refine StepI.turn rfl (by kernel_rfl) ?_;intro A wa hj hd h0;have q2:=z0d hd 2 17 (by kernel_rfl) rfl;simp[eqS] at q2;have r7:=z0c h0 7 (by kernel_rfl);simp at r7;have q4:=z0d hd 4 19 (by kernel_rfl) rfl;simp[eqS] at q4;have q5:=z0d hd 5 20 (by kernel_rfl) rfl;simp[eqS] at q5;clear hd h0;have KS:=Hd (z8c W0 B N0 mb g mp vf vs vp vc ve' a.2 (s.con x.name v) clk x.l v3 wa (H5.o.ext hj) ((HK.o.frS HJ.o.fr).frS (X5.o.trans hj).chg) HF.o (by show(s.env++[(x.name,v)]).length+_≤_;rw[List.length_append];exact hs0));have HJX:=Hd hj;clear hj;go_simp;refine KS.o.mono ?_;rintro e w3 (⟨r,u,hr,rfl,hsl,hmk,hfr,hcm⟩|⟨c,hr,rfl,hfr⟩);rotate_left
    ·exact⟨rfl,c,by rw[hr];rfl,rfl,HJX.o.chg.trans hfr⟩
    have HP:=Hd (show k5k (z2b clk (s.con x.name v) x.l a.2) N0 mb vf vs vp vc a.2 W5 u w3 from⟨r,hr,SlT9.turn hsl (y1u (fun _=>False) w3) (fun b _ hy=>⟨id,y1k HJX.o.size hy⟩),hmk,HJX.o.chg.trans hfr,hcm⟩);clear hr hsl hmk hfr hcm;go_simp;first|exact⟨_,rfl,trivial,HP.o⟩
   all_goals
    refine StepI.plain (S:=[6]) (T:=[21]) (I:=FrS mb W5) z6j (q1k (fun _ h=>h.chg) (fun _ _ h=>by obtain⟨r,h1,h2,h3,h4,h5⟩:=h;exact h4)) (by decide) (by decide) ?_;intro A wa hI hd h0;try (have q0:=z0d hd 0 15 (by decide) rfl;simp[eqS] at q0)
    try (have q3:=z0d hd 3 18 (by decide) rfl;simp[eqS] at q3)
    have r3:=z0c h0 3 (by kernel_rfl);simp at r3;have r4:=z0c h0 4 (by kernel_rfl);simp at r4;have r2:=z0c h0 2 (by kernel_rfl);simp at r2;have r5:=z0c h0 5 (by kernel_rfl);simp at r5;clear hd h0;have hfI:FrS mb w wa:=X5.o.chg.trans hI;have i1:=(hfI.blk HBT.o (show¬gt=mb by omega)).cell 5;have i2:=(hfI.blk HJ.o.bm (show¬gm=mb by omega)).cell 0;have i3:=(hfI.blk HJ.o.bx (show¬gx=mb by omega)).cell 3;have i4:=(hfI.blk HJ.o.bk (show¬gk=mb by omega)).cell 0;try simp only[List.getElem?_cons_succ,List.getElem?_cons_zero] at i1 i2 i3 i4
    clear hI hfI;go_simp;first|exact⟨_,rfl,rfl,rfl⟩|exact⟨_,rfl,rfl⟩|exact⟨rfl,rfl⟩|exact rfl
  ·intro A wa hk;obtain⟨f,rfl,hdn,hrs,hj⟩:=hk.fin (n:=24) rfl;replace hj:(k5k (z2b clk (s.con x.name v) x.l a.2) N0 mb vf vs vp vc a.2 W5) (f 21) wa:=hj;have k3:=hrs 3 (by kernel_rfl);have k16:f 16=.slice sa a.1.length sc:=hdn 1 16 rfl rfl;clear hdn hrs;obtain⟨r,hr,hsl,hmk,hfr,hcm⟩:=hj;obtain⟨ta,tc,hu⟩:=hsl.form;obtain⟨nl,hnl⟩:∃nl,nl=r.1.length:=⟨_,rfl⟩;rw[←hnl] at hu;have k21:=hu;rw[hu] at hsl;clear hu;have hfw:FrS mb w wa:=X5.o.chg.trans hfr;have hsw:w.heap.size≤W5.heap.size:=X5.o.size;have HO6:=Hd (HOW.o.chg hfw (fun b hb=>by have:b=mb:=hb;omega));have BT6:=Hd (hfw.blk HBT.o (show¬gt=mb by omega));have BM6:=Hd (hfw.blk HJ.o.bm (show¬gm=mb by omega));have BS6:=Hd (hfw.blk HJ.o.bs (show¬gs=mb by omega));have BX6:=Hd (hfw.blk HJ.o.bx (show¬gx=mb by omega));have BK6:=Hd (hfw.blk HJ.o.bk (show¬gk=mb by omega));have BR6:=Hd (hfw.blk HJ.o.br (show¬gr=mb by omega));have HY:=Hd (show SlT9 (fun b=>N≤b∧(Value.slice sa a.1.length sc).ownBlock≠some b) wa r.1 (.slice ta nl tc) from SlT9.turn hsl (y1u (fun _=>False) wa) (fun b hb hy=>⟨id,by omega,fun e=>by have:=(HOW.o.lt b e).2;omega⟩));have HM6:=Hd hmk;have HC6:=Hd (HJ.o.cn.trans hcm);have HF6:=Hd (HJ.o.fr.trans hfw);have HR6:=Hd (show(do let y←z2b clk (s.con x.name v) x.l a.2;return(a.1++y.1,y.2):Rs (List DT×Mk))=.ok (a.1++r.1,r.2) by rw[hr];rfl);have hb6:N≤wa.heap.size:=y1k hsz hfw.size;have hl1:=HJ.o.len;have hl2:=j7n hr;have hl3:=H1.o.c0;have hl4:r.2.count≤65536:=by obtain⟨n,h1,-,h2⟩:=hcm;rw[h1];exact h2
   have hlen1:a.1.length≤1000000000:=by omega
   have hlen2:r.1.length≤1000000000:=by omega
   have HLN:=Hd (show((a.1++r.1).length:Int)≤r.2.count by rw[List.length_append];omega);clear hl1 hl2 hl3 hl4;clear hr hsl hmk hcm hfw hfr;simp at k3;simp only[List.drop_succ_cons,List.drop_zero];simp[List.range,List.range.loop,k3,k16,k21];clear k3 k16 k21
   go_wp2_with (first
    |(at_builtin;go_loud (
      refine q2v rfl _ _ 68 rfl N _ 80 j3s underlying68 rfl (by decide) a.1 r.1 (.slice sa a.1.length sc) (.slice ta nl tc) rfl HO6.o rfl HY.o hlen1 hlen2 hb6 ?_;intro v6 w6 hown6 hg6 hge6;have hc6:Chg (fun b=>N≤b) wa w6:=Chg.grown (y1u _ wa) hg6 (fun g hg _=>hge6 g hg);have b6:=hc6.blk BT6.o (by omega);have t5:=b6.cell 5;have f5:=b6.frozen 5;simp only[List.getElem?_cons_succ,List.getElem?_cons_zero] at t5;obtain⟨a6,k6,hv6⟩:=hown6.form;obtain⟨nl6,hnl6⟩:∃nl6,nl6=(a.1++r.1).length:=⟨_,rfl⟩;rw[←hnl6] at hv6;subst hv6;obtain⟨W7,hW7⟩:∃W7,W7=w6.setCell ⟨gt,5,none⟩ (.slice a6 nl6 k6):=⟨_,rfl⟩;have hV7:=hW7.symm;have hc7:Chg (fun b=>b=gt) w6 W7:=by rw[hW7];exact z1e _ _ _ _
      have hcc:Chg (fun b=>N≤b∨b=gt) wa W7:=(hc6.mono (fun _ _ h=>.inl h)).trans (hc7.mono (fun _ _ h=>.inr h));have hf7:FrS mb w0 W7:=HF6.o.trans_new hcc (fun b hb=>by omega)
      have HJ7:=Hd (show LpI w0 N N0 mb sb gm gs gx gt gk gr vf vs vp vc clk x v2 v3 m (a.1++r.1,r.2) W7 from
       ⟨hf7,H.o.mk_.back hf7 HM6.o hcc (by omega) HC6.o,HC6.o,hcc.blk BM6.o (by omega),hcc.blk BS6.o (by omega),hcc.blk BX6.o (by omega),hcc.blk BK6.o (by omega),
        ⟨_,by rw[hW7];simpa using b6.set_ 5 (.slice a6 nl6 k6),hown6.chg hc7 (fun b hb=>by have:b=gt:=hb;omega)⟩,y1k hb6 hcc.size,HLN.o,hcc.blk BR6.o (by omega)⟩)
      clear hown6 hg6 hge6 hc6 b6 hW7 hc7 hcc hf7 hnl6)))
   go_end0
   exact .ok HR6.o ⟨rfl,HJ7.o⟩
theorem j7r(W0:World)(B N0 mb:Nat)(vf vs vp vc:Value)(clk:Bool)(x:S)(hop:x.op=1)(hvx:∀y,y∈x.x→VX y)(hm:∀y,y∈x.x→MayX y)(h2:x.x.length=2)(htg:∀y,y∈x.x.head?→y.op=3∨y.op=4→0<y.l.length):z5m W0 B N0 mb vf vs vp vc clk 149 (z1t clk) x:=by
 intro sb mp ve m s w cs h hln hR;have H:=Hd h;have hmw:=h.mk_.blk.lt;have hc1:=h.c1;obtain⟨v2,v3,rfl,hx2,hl3⟩:=hR;have o3:=hl3.oneCell;have o2:=hx2.oneCell;have HL:=Hd hl3;have HX2:=Hd hx2;obtain⟨W1,hW1,hx1,hb1⟩:=z4w w (.pointer (some ⟨mb,0,none⟩)) 97;obtain⟨W2,hW2,hx2,hb2⟩:=z4w W1 (.pointer (some ⟨sb,0,none⟩)) 100;obtain⟨W3,hW3,hx3,hb3⟩:=q2d W2 (.int .i64 x.op) (.string x.name) v2 v3 177;obtain⟨W4,hW4,hx4,hb4⟩:=z4w W3 (.bool clk) 4;obtain⟨W5,hW5,hx5,hb5⟩:=z6v W4 (.int .i64 0) (.int .i64 0) (.int .i64 0) (.int .i64 0) (.slice none 0 0) (.slice none 0 0) 73;have hV1:=hW1.symm;have hV2:=hW2.symm;have hV3:=hW3.symm;have hV4:=hW4.symm;have s1:w.heap.size<W1.heap.size:=hb1.lt;have s2:W1.heap.size<W2.heap.size:=hb2.lt;have s3:W2.heap.size<W3.heap.size:=hb3.lt;have s4:W3.heap.size<W4.heap.size:=hb4.lt;have s5:W4.heap.size<W5.heap.size:=hb5.lt;have BM:=Hd (hb1.ext (hx2.trans (hx3.trans (hx4.trans hx5))));have BS:=Hd (hb2.ext (hx3.trans (hx4.trans hx5)));have BX:=Hd (hb3.ext (hx4.trans hx5));have BK:=Hd (hb4.ext hx5);have BR:=Hd hb5;have X5:=Hd (hx1.trans (hx2.trans (hx3.trans (hx4.trans hx5))));have H5:=Hd (h.ext X5.o);obtain⟨e5,he5⟩:=y1h (W:=W5) (w:=W5) (y1g _);have hV5:=hW5.symm.trans he5;obtain⟨c0,c1,c2,c3⟩:=BX.o.later4;have m0:=cellAt (BM.o.cell 0);have n0:=cellAt (BS.o.cell 0);have k0:=cellAt (BK.o.cell 0);have HW5:=Hd he5;clear he5 hW1 hW2 hW3 hW4 hW5 hx1 hx2 hx3 hx4 hx5 hb1 hb2 hb3 hb4 hb5 h hl3;have hs0:1+z0e z0l x.x+z0e z0p x.l≤1000000:=by rw[←z0w];omega
 obtain⟨la,lc,rfl,hlc,hlr⟩:=HX2.o;have hl0:0<x.x.length:=by omega
 have hl1:1<x.x.length:=by omega
 obtain⟨b0,o0,t0,hla,hb0,hlt0,hC0,ho0,hR0⟩:=hlr 0 hl0;obtain⟨b1,o1,t1,hla1,hb1',hlt1,hC1,ho1,hR1⟩:=hlr 1 hl1;subst hla;injection hla1 with e1;injection e1 with e1 e2;subst e1;subst e2;have HX0:=Hd (XOk.of (y1l hl0) hR0 (by omega) hvx);have HX1:=Hd (XOk.of (y1l hl1) hR1 (by omega) hvx);have HM1:=Hd (hm _ (y1l hl1));have HT0:=Hd (htg x.x[0] (by rw[List.head?_eq_getElem?,List.getElem?_eq_getElem hl0];exact rfl));obtain⟨x50,rfl,h50⟩:=RX_iff.1 hR0;obtain⟨x51,rfl,h51⟩:=RX_iff.1 hR1;simp only[Nat.zero_mul,Nat.add_zero,Nat.one_mul] at hC0 hC1;have HD:=Hd (show z1t clk x s m=z2p s clk x.x[0] x.x[1] m by rw[z7d];unfold q6n;rw[if_pos hop,z2m (k:=0) hl0,z2m (k:=1) hl1]);generalize x.x[0]=x0 at*;generalize x.x[1]=x1 at*;have u0:=h50.oneCell;have u1:=h51.oneCell;obtain⟨d0,d1,d2,d3,d4,d5⟩:=(hC0.ext H5.o.cx.ext).later6;obtain⟨q0,q1,q2,q3,q4,q5⟩:=(hC1.ext H5.o.cx.ext).later6;have hk0:(0:Int)<(x.x.length:Int):=by omega
 have hk1:(1:Int)<(x.x.length:Int):=by omega
 rw[hop] at hV3 c0;clear hlr hR0 hR1 h50 h51 hlt0 hlt1 hb0 hb1' hC0 hC1 ho0 ho1 hl1 h2 hvx hm htg hx2 hln;rw[hop];go_enter func149,ntmps149;go_wp2_with fail
 refine z0m 11 (W:=W5) (Ext) (eqG [.pointer (some ⟨mb,0,none⟩),.pointer (some ⟨sb,0,none⟩),.pointer (some ⟨W2.heap.size,2,none⟩),.slice (some ⟨b0,o0,none⟩) x.x.length lc,.pointer (some ⟨b0,o0,none⟩),.agg #[.int .i64 x0.op,.string x0.name,.int .i64 x0.n,.int .i64 x0.w,.int .u64 x0.v,x50],.pointer (some ⟨W2.heap.size,2,none⟩),.slice (some ⟨b0,o0,none⟩) x.x.length lc,.pointer (some ⟨b0,o0+6,none⟩),.agg #[.int .i64 x1.op,.string x1.name,.int .i64 x1.n,.int .i64 x1.w,.int .u64 x1.v,x51],.bool clk]) (fun _ _=>False) (fun _=>true) (by kernel_rfl) (z0s) (by kernel_rfl) (by kernel_rfl) ?_ (y1i e5) (fun i v w w' h hx=>z7l h hx) ?_ (fun A ch w hd hp=>hp.elim) ?_
 ·exact⟨rfl,rfl,rfl,rfl,rfl,rfl,rfl,rfl,rfl,rfl,rfl,trivial⟩
 ·refine⟨?_,?_,?_,?_,?_,?_,?_,?_,?_,?_,?_,trivial⟩
  all_goals
   intro A wa hxa hd h0;obtain⟨ea,rfl⟩:=y1h hxa;try (have q2:=z0d hd 2 19 (by decide) rfl;simp[eqG] at q2)
   try (have q3:=z0d hd 3 20 (by decide) rfl;simp[eqG] at q3)
   try (have q4:=z0d hd 4 21 (by decide) rfl;simp[eqG] at q4)
   try (have q6:=z0d hd 6 23 (by decide) rfl;simp[eqG] at q6)
   try (have q7:=z0d hd 7 24 (by decide) rfl;simp[eqG] at q7)
   try (have q8:=z0d hd 8 25 (by decide) rfl;simp[eqG] at q8)
   have r4:=z0c h0 4 (by kernel_rfl);simp at r4;have r5:=z0c h0 5 (by kernel_rfl);simp at r5;have r6:=z0c h0 6 (by kernel_rfl);simp at r6;have r7:=z0c h0 7 (by kernel_rfl);simp at r7;clear hd h0;go_simp;first|exact⟨_,rfl,y1g _,rfl⟩|exact⟨y1g _,rfl⟩|exact rfl|exact⟨_,rfl,rfl⟩|exact y1g _
 ·intro A wa hk;obtain⟨f,rfl,hxa,hdn,hrs⟩:=hk.fin (n:=120) rfl;obtain⟨ea,rfl⟩:=y1h hxa;have k8:=hrs 8 (by kernel_rfl);have k17:f 17=.pointer (some ⟨mb,0,none⟩):=hdn 0 17 rfl rfl;have k18:f 18=.pointer (some ⟨sb,0,none⟩):=hdn 1 18 rfl rfl;have k22:f 22=.agg #[.int .i64 x0.op,.string x0.name,.int .i64 x0.n,.int .i64 x0.w,.int .u64 x0.v,x50]:=hdn 5 22 rfl rfl;have k26:f 26=.agg #[.int .i64 x1.op,.string x1.name,.int .i64 x1.n,.int .i64 x1.w,.int .u64 x1.v,x51]:=hdn 9 26 rfl rfl;have k27:f 27=.bool clk:=hdn 10 27 rfl rfl;clear hdn hrs;simp at k8;simp only[List.drop_succ_cons,List.drop_zero];simp[List.range,List.range.loop,k8,k17,k18,k22,k26,k27];clear k8 k17 k18 k22 k26 k27;have KA:=Hd (q6h W0 B N0 mb sb mp vf vs vp vc ve m s clk x0 x1 _ _ ea.w (H5.o.ext ea.ext) HX0.o HX1.o HT0.o HM1.o);go_wp2_with fail
  go_at_call 108;refine KA.o.mono ?_;rintro e w6 (⟨r,u,hr,rfl,c,rfl,hrt,hmk,hfr,hcm⟩|⟨c,hr,rfl,hfr⟩);rotate_left
  ·exact⟨rfl,.no (by rw[HD.o,hr]) ((X5.o.trans ea.ext).chg.trans hfr)⟩
  have b8:=hfr.blk (BR.o.ext ea.ext) (show¬W4.heap.size=mb by omega);have s6:W5.heap.size≤ea.w.heap.size:=ea.ext.size;obtain⟨v4,v5,rfl,h4,h5⟩:=RT9_iff.1 hrt;have o4:=h4.oneCell;have o5:=h5.oneCell;obtain⟨f0,f1,f2,f3,f4,f5⟩:=b8.free6;obtain⟨g0,g1,g2,g3,g4,g5⟩:=b8.get6;obtain⟨W9,hW9⟩:∃W9,W9=(((((w6.setCell ⟨W4.heap.size,0,none⟩ (.int .i64 r.1.op)).setCell ⟨W4.heap.size,1,none⟩ (.int .i64 r.1.sig)).setCell ⟨W4.heap.size,2,none⟩ (.int .i64 r.1.hi)).setCell ⟨W4.heap.size,3,none⟩ (.int .i64 r.1.lo)).setCell ⟨W4.heap.size,4,none⟩ v4).setCell ⟨W4.heap.size,5,none⟩ v5:=⟨_,rfl⟩;have hV9:=hW9.symm;have b9:Blk W9 W4.heap.size 73 [.int .i64 r.1.op,.int .i64 r.1.sig,.int .i64 r.1.hi,.int .i64 r.1.lo,v4,v5]:=by rw[hW9];exact b8.store6 _ _ _ _ _ _
  have hc9:Chg (fun b=>b=W4.heap.size) w6 W9:=by rw[hW9];exact z5d _ _ _ _ _ _ _ _
  have hf9:FrS mb w W9:=((X5.o.trans ea.ext).chg.trans hfr).trans_new hc9 (fun b hb=>by have:b=W4.heap.size:=hb;omega);have HM9:=Hd (H.o.mk_.back hf9 hmk hc9 (fun hb=>by have:mb=W4.heap.size:=hb;omega) hcm);have HT9:=Hd (show RT9 (fun b=>w.heap.size≤b) W9 r.1 [.int .i64 r.1.op,.int .i64 r.1.sig,.int .i64 r.1.hi,.int .i64 r.1.lo,v4,v5] from RT9.turn hc9 (fun b hb hy=>⟨fun e=>by have:b=W4.heap.size:=e;omega,by omega⟩) r.1 _ hrt);have HF9:=Hd hf9;have HC9:=Hd hcm;have HR9:=Hd (show z1t clk x s m=.ok r by rw[HD.o,hr]);obtain⟨j0,j1,j2,j3,j4,j5⟩:=b9.get6;clear hrt hmk hfr hcm hr b8 hW9 b9 hc9 hf9 h4 h5 d0 d1 d2 d3 d4 d5 q0 q1 q2 q3 q4 q5 c0 c1 c2 c3;go_wp2_with fail
  refine bodyPost_ret (v:=.agg #[.int .i64 r.1.op,.int .i64 r.1.sig,.int .i64 r.1.hi,.int .i64 r.1.lo,v4,v5]) ?_ rfl (.ok HR9.o ⟨[.int .i64 r.1.op,.int .i64 r.1.sig,.int .i64 r.1.hi,.int .i64 r.1.lo,v4,v5],rfl,HT9.o,HM9.o,HF9.o,HC9.o⟩);simp[results,results149,go_sem,j0,j1,j2,j3,j4,j5]
theorem q8j(W0:World)(B N0 mb:Nat)(vf vs vp vc:Value)(clk:Bool)(x:S)(hop:x.op=5)(hf:∀y,y∈x.l→z5m W0 B N0 mb vf vs vp vc clk 149 (z1t clk) y):z5m W0 B N0 mb vf vs vp vc clk 149 (z1t clk) x:=by
 intro sb mp ve m s w cs h hln hR;have H:=Hd h;have hmw:=h.mk_.blk.lt;have hc1:=h.c1;obtain⟨v2,v3,rfl,hx2,hl3⟩:=hR;have o3:=hl3.oneCell;have o2:=hx2.oneCell;have HL:=Hd hl3;have HX2:=Hd hx2;obtain⟨W1,hW1,hx1,hb1⟩:=z4w w (.pointer (some ⟨mb,0,none⟩)) 97;obtain⟨W2,hW2,hx2,hb2⟩:=z4w W1 (.pointer (some ⟨sb,0,none⟩)) 100;obtain⟨W3,hW3,hx3,hb3⟩:=q2d W2 (.int .i64 x.op) (.string x.name) v2 v3 177;obtain⟨W4,hW4,hx4,hb4⟩:=z4w W3 (.bool clk) 4;obtain⟨W5,hW5,hx5,hb5⟩:=z6v W4 (.int .i64 0) (.int .i64 0) (.int .i64 0) (.int .i64 0) (.slice none 0 0) (.slice none 0 0) 73;have hV1:=hW1.symm;have hV2:=hW2.symm;have hV3:=hW3.symm;have hV4:=hW4.symm;have s1:w.heap.size<W1.heap.size:=hb1.lt;have s2:W1.heap.size<W2.heap.size:=hb2.lt;have s3:W2.heap.size<W3.heap.size:=hb3.lt;have s4:W3.heap.size<W4.heap.size:=hb4.lt;have s5:W4.heap.size<W5.heap.size:=hb5.lt;have BM:=Hd (hb1.ext (hx2.trans (hx3.trans (hx4.trans hx5))));have BS:=Hd (hb2.ext (hx3.trans (hx4.trans hx5)));have BX:=Hd (hb3.ext (hx4.trans hx5));have BK:=Hd (hb4.ext hx5);have BR:=Hd hb5;have X5:=Hd (hx1.trans (hx2.trans (hx3.trans (hx4.trans hx5))));have H5:=Hd (h.ext X5.o);obtain⟨e5,he5⟩:=y1h (W:=W5) (w:=W5) (y1g _);have hV5:=hW5.symm.trans he5;obtain⟨c0,c1,c2,c3⟩:=BX.o.later4;have m0:=cellAt (BM.o.cell 0);have n0:=cellAt (BS.o.cell 0);have k0:=cellAt (BK.o.cell 0);have HW5:=Hd he5;clear he5 hW1 hW2 hW3 hW4 hW5 hx1 hx2 hx3 hx4 hx5 hb1 hb2 hb3 hb4 hb5 h hl3;have hs1:s.env.length+z0e z0p x.l≤1000000:=by rw[z0w] at hln;omega
 have HFF:=Hd hf;have HD:=Hd (show z1t clk x s m=(do let m1←z7a 1 m;let z←z2b clk s x.l m1;return(.mk 5 0 0 0 [] z.1,z.2)) by rw[z7d];unfold q6n z2b;rw[if_neg (by omega)];simp only[if_pos hop,List.map_map];rfl);rw[hop] at hV3 c0 BX;rw[hop];clear hop hf hx2 hln;have KC:=Hd (z1k N0 mb vf vs vp vc m 1 e5.w (HW5.o▸H5.o.mk_) H5.o.c0 H5.o.c1 (by decide) (by decide));go_enter func149,ntmps149;go_wp2_with fail
 go_at_call 75;refine KC.o.mono ?_;rintro e w6 (⟨m1,u,hr,rfl,rfl,hmk,hfr⟩|⟨c,hr,rfl,hfr⟩);rotate_left
 ·exact⟨rfl,.no (by rw[HD.o,hr];rfl) ((X5.o.trans e5.ext).chg.trans hfr)⟩
 have hfr5:FrS mb W5 w6:=e5.ext.chg.trans hfr;obtain⟨W7z,hWz,hxz,hbz⟩:=z6v w6 (.int .i64 0) (.int .i64 0) (.int .i64 0) (.int .i64 0) (.slice none 0 0) (.slice none 0 0) 73;have hVz:=hWz.symm;obtain⟨a0,a1,a2,a3,a4,a5⟩:=hbz.get6;obtain⟨l0,l1,l2,l3,l4,l5⟩:=hbz.free6;obtain⟨W7,hW7⟩:∃W7,W7=(((((W7z.setCell ⟨w6.heap.size,0,none⟩ (.int .i64 5)).setCell ⟨w6.heap.size,1,none⟩ (.int .i64 0)).setCell ⟨w6.heap.size,2,none⟩ (.int .i64 0)).setCell ⟨w6.heap.size,3,none⟩ (.int .i64 0)).setCell ⟨w6.heap.size,4,none⟩ (.slice none 0 0)).setCell ⟨w6.heap.size,5,none⟩ (.slice none 0 0):=⟨_,rfl⟩;have hV7:=hW7.symm;have hb7:Blk W7 w6.heap.size 73 [.int .i64 5,.int .i64 0,.int .i64 0,.int .i64 0,.slice none 0 0,.slice none 0 0]:=by rw[hW7];exact hbz.store6 _ _ _ _ _ _
 have hx7:Ext w6 W7:=by rw[hW7];exact(((((hxz.setCell (y1j _) _).setCell (y1j _) _).setCell (y1j _) _).setCell (y1j _) _).setCell (y1j _) _).setCell (y1j _) _
 have s6:W5.heap.size≤w6.heap.size:=hfr5.size;have s7:w6.heap.size<W7.heap.size:=hb7.lt;have f7:FrS mb W5 W7:=hfr5.trans hx7.chg;have F7:=Hd (X5.o.chg.trans f7);have BM7:=Hd (f7.blk BM.o (show¬w.heap.size=mb by omega));have BS7:=Hd (f7.blk BS.o (show¬W1.heap.size=mb by omega));have BX7:=Hd (f7.blk BX.o (show¬W2.heap.size=mb by omega));have BK7:=Hd (f7.blk BK.o (show¬W3.heap.size=mb by omega));have BR7:=Hd (f7.blk BR.o (show¬W4.heap.size=mb by omega));have BT7:=Hd hb7;have HC1:=Hd (z6s hr (by decide));have HM7:=Hd (hmk.ext hx7);have H7:=Hd (H.o.frS F7.o HM7.o HC1.o);have HR1:=Hd hr;have b0:=BM7.o.cell 0;have b1:=BS7.o.cell 0;have b4:=BK7.o.cell 0;obtain⟨b20,b21,b22,b23⟩:=BX7.o.get4;clear hWz hxz hbz hW7 hb7 hx7 hfr hfr5 f7 hmk hr;have KS:=Hd (z8c W0 B N0 mb sb mp vf vs vp vc ve m1 s clk x.l v3 W7 H7.o (HL.o.frS F7.o) HFF.o hs1);go_wp2_with fail
 go_at_call 109;refine KS.o.mono ?_;rintro e w8 (⟨z,u,hr,rfl,hsl,hmk,hfr,hcm⟩|⟨c,hr,rfl,hfr⟩);rotate_left
 ·exact⟨rfl,.no (by rw[HD.o,HR1.o];simp only[bind,Except.bind];rw[hr]) (F7.o.trans hfr)⟩
 obtain⟨ta,tc,hu⟩:=hsl.form;obtain⟨nl,hnl⟩:∃nl,nl=z.1.length:=⟨_,rfl⟩;rw[←hnl] at hu;subst hu;have bt:=hfr.blk BT7.o (show¬w6.heap.size=mb by omega);have br:=hfr.blk BR7.o (show¬W4.heap.size=mb by omega);have t5:=bt.cell 5;have f5':=bt.frozen 5;simp only[List.getElem?_cons_succ,List.getElem?_cons_zero] at t5;have s8:W7.heap.size≤w8.heap.size:=hfr.size;obtain⟨W9,hW9⟩:∃W9,W9=w8.setCell ⟨w6.heap.size,5,none⟩ (.slice ta nl tc):=⟨_,rfl⟩;have hV9:=hW9.symm;have hc9:Chg (fun b=>b=w6.heap.size) w8 W9:=by rw[hW9];exact z1e _ _ _ _
 have bW9T:Blk W9 w6.heap.size 73 [.int .i64 5,.int .i64 0,.int .i64 0,.int .i64 0,.slice none 0 0,.slice ta nl tc]:=by rw[hW9];simpa using bt.set_ 5 (.slice ta nl tc)
 have bW9R:=hc9.blk br (show¬W4.heap.size=w6.heap.size by omega);have f9:FrS mb w W9:=(F7.o.trans hfr).trans_new hc9 (fun b hb=>by have:b=w6.heap.size:=hb;omega);have X9:=Hd f9;have C9:=Hd (HC1.o.trans hcm);have M9:=Hd (H.o.mk_.back f9 hmk hc9 (fun hb=>by have:mb=w6.heap.size:=hb;omega) C9.o);have hl9:SlT9 (fun b=>W7.heap.size≤b) W9 z.1 (.slice ta nl tc):=SlT9.turn hsl hc9 (fun b hb hy=>⟨fun e=>by have:b=w6.heap.size:=e;omega,hy⟩);have he9:SlE9 (fun b=>W7.heap.size≤b) W9 [] (.slice none 0 0):=SlY.nil;have HR9:=Hd (show z1t clk x s m=.ok (.mk 5 0 0 0 [] z.1,z.2) by rw[HD.o,HR1.o];simp only[bind,Except.bind];rw[hr];rfl);clear hsl hmk hfr hcm hr bt br hW9 hc9 f9 hnl;have bT:=bW9T;have bR:=bW9R;obtain⟨q0,q1,q2,q3,q4,q5⟩:=bT.get6;obtain⟨f0,f1,f2,f3,f4,f5⟩:=bR.free6;obtain⟨g0,g1,g2,g3,g4,g5⟩:=bR.get6;obtain⟨W19,hW19⟩:∃W19,W19=(((((W9.setCell ⟨W4.heap.size,0,none⟩ (.int .i64 5)).setCell ⟨W4.heap.size,1,none⟩ (.int .i64 0)).setCell ⟨W4.heap.size,2,none⟩ (.int .i64 0)).setCell ⟨W4.heap.size,3,none⟩ (.int .i64 0)).setCell ⟨W4.heap.size,4,none⟩ (.slice none 0 0)).setCell ⟨W4.heap.size,5,none⟩ (.slice ta nl tc):=⟨_,rfl⟩;have hV19:=hW19.symm;have b19:Blk W19 W4.heap.size 73 [.int .i64 5,.int .i64 0,.int .i64 0,.int .i64 0,(.slice none 0 0),(.slice ta nl tc)]:=by rw[hW19];exact bR.store6 _ _ _ _ _ _
 have hc19:Chg (fun b=>b=W4.heap.size) W9 W19:=by rw[hW19];exact z5d _ _ _ _ _ _ _ _
 have hf19:FrS mb w W19:=X9.o.trans_new hc19 (fun b hb=>by have:b=W4.heap.size:=hb;omega);have HM19:=Hd (H.o.mk_.back hf19 M9.o hc19 (fun hb=>by have:mb=W4.heap.size:=hb;omega) C9.o);have HE19:=Hd (show SlE9 (fun b=>w.heap.size≤b) W19 [] (.slice none 0 0) from SlE9.turn he9 hc19 (fun b hb hy=>⟨fun e=>absurd (hb.one (show Tag _ b _ from(show b=W4.heap.size from e)▸bR.tag)) (by decide),by omega⟩));have HL19:=Hd (show SlT9 (fun b=>w.heap.size≤b) W19 z.1 (.slice ta nl tc) from SlT9.turn hl9 hc19 (fun b hb hy=>⟨fun e=>by have:b=W4.heap.size:=e;omega,by omega⟩));have HF19:=Hd hf19;obtain⟨j0,j1,j2,j3,j4,j5⟩:=b19.get6;clear hl9 he9 bT bR hW19 b19 hc19 hf19;go_wp2_with fail
 refine bodyPost_ret (v:=.agg #[.int .i64 5,.int .i64 0,.int .i64 0,.int .i64 0,(.slice none 0 0),(.slice ta nl tc)]) ?_ rfl (.ok HR9.o ⟨[.int .i64 5,.int .i64 0,.int .i64 0,.int .i64 0,(.slice none 0 0),(.slice ta nl tc)],rfl,RT9_iff.2 ⟨_,_,rfl,HE19.o,HL19.o⟩,HM19.o,HF19.o,C9.o⟩);simp[results,results149,go_sem,j0,j1,j2,j3,j4,j5]
theorem j7o(W0:World)(B N0 mb:Nat)(vf vs vp vc:Value)(clk:Bool)(x:S)(hop:x.op=6)(hvx:∀y,y∈x.x→VX y)(h2:x.x.length=2)(hf:∀y,y∈x.l→z5m W0 B N0 mb vf vs vp vc clk 149 (z1t clk) y):z5m W0 B N0 mb vf vs vp vc clk 149 (z1t clk) x:=by
 intro sb mp ve m s w cs h hln hR;have H:=Hd h;have hmw:=h.mk_.blk.lt;have hc1:=h.c1;obtain⟨v2,v3,rfl,hx2,hl3⟩:=hR;have o3:=hl3.oneCell;have o2:=hx2.oneCell;have HL:=Hd hl3;have HX2:=Hd hx2;obtain⟨W1,hW1,hx1,hb1⟩:=z4w w (.pointer (some ⟨mb,0,none⟩)) 97;obtain⟨W2,hW2,hx2,hb2⟩:=z4w W1 (.pointer (some ⟨sb,0,none⟩)) 100;obtain⟨W3,hW3,hx3,hb3⟩:=q2d W2 (.int .i64 x.op) (.string x.name) v2 v3 177;obtain⟨W4,hW4,hx4,hb4⟩:=z4w W3 (.bool clk) 4;obtain⟨W5,hW5,hx5,hb5⟩:=z6v W4 (.int .i64 0) (.int .i64 0) (.int .i64 0) (.int .i64 0) (.slice none 0 0) (.slice none 0 0) 73;have hV1:=hW1.symm;have hV2:=hW2.symm;have hV3:=hW3.symm;have hV4:=hW4.symm;have s1:w.heap.size<W1.heap.size:=hb1.lt;have s2:W1.heap.size<W2.heap.size:=hb2.lt;have s3:W2.heap.size<W3.heap.size:=hb3.lt;have s4:W3.heap.size<W4.heap.size:=hb4.lt;have s5:W4.heap.size<W5.heap.size:=hb5.lt;have BM:=Hd (hb1.ext (hx2.trans (hx3.trans (hx4.trans hx5))));have BS:=Hd (hb2.ext (hx3.trans (hx4.trans hx5)));have BX:=Hd (hb3.ext (hx4.trans hx5));have BK:=Hd (hb4.ext hx5);have BR:=Hd hb5;have X5:=Hd (hx1.trans (hx2.trans (hx3.trans (hx4.trans hx5))));have H5:=Hd (h.ext X5.o);obtain⟨e5,he5⟩:=y1h (W:=W5) (w:=W5) (y1g _);have hV5:=hW5.symm.trans he5;obtain⟨c0,c1,c2,c3⟩:=BX.o.later4;have m0:=cellAt (BM.o.cell 0);have n0:=cellAt (BS.o.cell 0);have k0:=cellAt (BK.o.cell 0);have HW5:=Hd he5;clear he5 hW1 hW2 hW3 hW4 hW5 hx1 hx2 hx3 hx4 hx5 hb1 hb2 hb3 hb4 hb5 h hl3;have hs0:1+z0e z0l x.x+z0e z0p x.l≤1000000:=by rw[←z0w];omega
 have HFF:=Hd hf;have HVX:=Hd hvx;have HLN:=Hd hln;have HD:=Hd (show z1t clk x s m=(do let m1←z7a 1 m;let z←(do let a←z1p s (xAt x.x 0);let b←z1p s (xAt x.x 1);z9e (σ:=List DT×Mk) Prod.snd (fun a m'=>(a.1,m')) (fun v a=>do let y←z2b clk (s.con x.name v) x.l a.2;return(a.1++y.1,y.2)) (b - a).toNat a ([],m1));return(.mk 5 0 0 0 [] z.1,z.2)) by
  rw[z7d];unfold q6n;rw[if_neg (by omega)];simp only[if_neg (show¬x.op=5 by omega),if_pos hop,List.map_map];simp only[bind,Except.bind,pure,Except.pure];cases z7a 1 m with
  |error e=>rfl
  |ok m1=>
   simp only[];cases z1p s (xAt x.x 0) with
   |error e=>rfl
   |ok a=>
    simp only[];cases z1p s (xAt x.x 1) with
    |error e=>rfl
    |ok b=>
     simp only[];have:=j8o (body:=fun v m=>z2b clk (s.con x.name v) x.l m) (b - a).toNat a [] m1;simp only[bind,Except.bind,pure,Except.pure] at this;rw[this];have e:(fun v=>q0x (x.l.map ((fun f=>f (s.con x.name v)) ∘ z1t clk)))=(fun v m=>z2b clk (s.con x.name v) x.l m):=rfl;rw[e];cases q8o (fun v m=>z2b clk (s.con x.name v) x.l m) (b - a).toNat a m1<;>rfl)
 have hop':=hop;rw[hop] at hV3 c0;rw[hop];rw[hop] at BX;clear hop hf hx2 hln hvx;have hmf:=@hmf_ Tryz.prog;have KC:=Hd (z1k N0 mb vf vs vp vc m 1 e5.w (HW5.o▸H5.o.mk_) H5.o.c0 H5.o.c1 (by decide) (by decide));go_enter func149,ntmps149;go_wp2_with fail
 go_at_call 75;refine KC.o.mono ?_;rintro e w6 (⟨m1,u,hr,rfl,rfl,hmk,hfr⟩|⟨c,hr,rfl,hfr⟩);rotate_left
 ·exact⟨rfl,.no (by rw[HD.o,hr];rfl) ((X5.o.trans e5.ext).chg.trans hfr)⟩
 have hfr5:FrS mb W5 w6:=e5.ext.chg.trans hfr;obtain⟨W7z,hWz,hxz,hbz⟩:=z6v w6 (.int .i64 0) (.int .i64 0) (.int .i64 0) (.int .i64 0) (.slice none 0 0) (.slice none 0 0) 73;have hVz:=hWz.symm;obtain⟨a0,a1,a2,a3,a4,a5⟩:=hbz.get6;obtain⟨l0,l1,l2,l3,l4,l5⟩:=hbz.free6;obtain⟨W7,hW7⟩:∃W7,W7=(((((W7z.setCell ⟨w6.heap.size,0,none⟩ (.int .i64 5)).setCell ⟨w6.heap.size,1,none⟩ (.int .i64 0)).setCell ⟨w6.heap.size,2,none⟩ (.int .i64 0)).setCell ⟨w6.heap.size,3,none⟩ (.int .i64 0)).setCell ⟨w6.heap.size,4,none⟩ (.slice none 0 0)).setCell ⟨w6.heap.size,5,none⟩ (.slice none 0 0):=⟨_,rfl⟩;have hV7:=hW7.symm;have hb7:Blk W7 w6.heap.size 73 [.int .i64 5,.int .i64 0,.int .i64 0,.int .i64 0,.slice none 0 0,.slice none 0 0]:=by rw[hW7];exact hbz.store6 _ _ _ _ _ _
 have hx7:Ext w6 W7:=by rw[hW7];exact(((((hxz.setCell (y1j _) _).setCell (y1j _) _).setCell (y1j _) _).setCell (y1j _) _).setCell (y1j _) _).setCell (y1j _) _
 have s6:W5.heap.size≤w6.heap.size:=hfr5.size;have s7:w6.heap.size<W7.heap.size:=hb7.lt;have f7:FrS mb W5 W7:=hfr5.trans hx7.chg;have F7:=Hd (X5.o.chg.trans f7);have BM7:=Hd (f7.blk BM.o (show¬w.heap.size=mb by omega));have BS7:=Hd (f7.blk BS.o (show¬W1.heap.size=mb by omega));have BX7:=Hd (f7.blk BX.o (show¬W2.heap.size=mb by omega));have BK7:=Hd (f7.blk BK.o (show¬W3.heap.size=mb by omega));have BR7:=Hd (f7.blk BR.o (show¬W4.heap.size=mb by omega));have BT7:=Hd hb7;have HC1:=Hd (z6s hr (by decide));have HM7:=Hd (hmk.ext hx7);have H7:=Hd (H.o.frS F7.o HM7.o HC1.o);have HR1:=Hd hr;have b0:=BM7.o.cell 0;have b1:=BS7.o.cell 0;have b4:=BK7.o.cell 0;obtain⟨b20,b21,b22,b23⟩:=BX7.o.get4;clear hWz hxz hbz hW7 hb7 hx7 hfr hfr5 f7 hmk hr;have b1':w.heap.size≤w.heap.size∧w.heap.size<W7.heap.size:=by omega
 have b2':w.heap.size≤W1.heap.size∧W1.heap.size<W7.heap.size:=by omega
 have b3':w.heap.size≤W2.heap.size∧W2.heap.size<W7.heap.size:=by omega
 have b4':w.heap.size≤w6.heap.size∧w6.heap.size<W7.heap.size:=by omega
 have b5':w.heap.size≤W3.heap.size∧W3.heap.size<W7.heap.size:=by omega
 have b6':w.heap.size≤W4.heap.size∧W4.heap.size<W7.heap.size:=by omega
 have hc0:=H.o.c0
 have KP:=Hd (q5j W0 B N0 mb sb mp s (LpI w W7.heap.size N0 mb sb w.heap.size W1.heap.size W2.heap.size w6.heap.size W3.heap.size W4.heap.size vf vs vp vc clk x v2 v3 m) Prod.snd (fun a m'=>(a.1,m')) (FrS mb w) (j9e H.o hmw b1' b2' b3' b4' b5' b6')
  (fun v a=>do let y←z2b clk (s.con x.name v) x.l a.2;return(a.1++y.1,y.2)) 185 #[.pointer (some ⟨W1.heap.size,0,none⟩),.pointer (some ⟨W2.heap.size,0,none⟩),.pointer (some ⟨w6.heap.size,0,none⟩),.pointer (some ⟨w.heap.size,0,none⟩),.pointer (some ⟨W3.heap.size,0,none⟩)] ⟨fun _ _=>by kernel_rfl⟩
  (fun v a wz hv hj=>j7s W0 w B W7.heap.size N0 mb sb mp w.heap.size W1.heap.size W2.heap.size w6.heap.size W3.heap.size W4.heap.size vf vs vp vc ve clk m s x v2 v3 H.o HL.o HLN.o HFF.o b1' b2' b3' b4' b5' b6' (by omega) o2 v hv a wz hj)
  x.x v2 ([],m1) W7 ⟨F7.o,HM7.o,HC1.o,BM7.o,BS7.o,hop'▸BX7.o,BK7.o,⟨_,BT7.o,OwnT.none_⟩,y1j _,by show(0:Int)≤m1.count;have:=(z7o HR1.o).1;omega,BR7.o⟩ HX2.o h2 (by omega) HVX.o)
 clear b1' b2' b3' b4' b5' b6';go_wp2_with fail
 go_at_call 112;refine KP.o.mono ?_;rintro e w9 (⟨z,u,hr,rfl,rfl,hj⟩|⟨c,hr,rfl,hfr⟩);rotate_left
 ·exact⟨rfl,.no (by rw[HD.o,HR1.o];simp only[bind,Except.bind] at hr⊢;rw[hr]) hfr⟩
 obtain⟨v5,bw9T,o5⟩:=hj.row;have hl9:=o5.slY;obtain⟨ta,tc,hu⟩:=o5.form;obtain⟨nl,hnl⟩:∃nl,nl=z.1.length:=⟨_,rfl⟩;rw[←hnl] at hu;subst hu;have bw9R:=hj.br;have X9:=Hd hj.fr;have C9:=Hd hj.cn;have M9:=Hd hj.mk_;have he9:SlE9 (fun b=>W7.heap.size≤b) w9 [] (.slice none 0 0):=SlY.nil;have HR9:=Hd (show z1t clk x s m=.ok (.mk 5 0 0 0 [] z.1,z.2) by rw[HD.o,HR1.o];simp only[bind,Except.bind] at hr⊢;rw[hr];rfl);clear hj o5 hr hnl;have bT:=bw9T;have bR:=bw9R;obtain⟨q0,q1,q2,q3,q4,q5⟩:=bT.get6;obtain⟨f0,f1,f2,f3,f4,f5⟩:=bR.free6;obtain⟨g0,g1,g2,g3,g4,g5⟩:=bR.get6;obtain⟨W19,hW19⟩:∃W19,W19=(((((w9.setCell ⟨W4.heap.size,0,none⟩ (.int .i64 5)).setCell ⟨W4.heap.size,1,none⟩ (.int .i64 0)).setCell ⟨W4.heap.size,2,none⟩ (.int .i64 0)).setCell ⟨W4.heap.size,3,none⟩ (.int .i64 0)).setCell ⟨W4.heap.size,4,none⟩ (.slice none 0 0)).setCell ⟨W4.heap.size,5,none⟩ (.slice ta nl tc):=⟨_,rfl⟩;have hV19:=hW19.symm;have b19:Blk W19 W4.heap.size 73 [.int .i64 5,.int .i64 0,.int .i64 0,.int .i64 0,(.slice none 0 0),(.slice ta nl tc)]:=by rw[hW19];exact bR.store6 _ _ _ _ _ _
 have hc19:Chg (fun b=>b=W4.heap.size) w9 W19:=by rw[hW19];exact z5d _ _ _ _ _ _ _ _
 have hf19:FrS mb w W19:=X9.o.trans_new hc19 (fun b hb=>by have:b=W4.heap.size:=hb;omega);have HM19:=Hd (H.o.mk_.back hf19 M9.o hc19 (fun hb=>by have:mb=W4.heap.size:=hb;omega) C9.o);have HE19:=Hd (show SlE9 (fun b=>w.heap.size≤b) W19 [] (.slice none 0 0) from SlE9.turn he9 hc19 (fun b hb hy=>⟨fun e=>absurd (hb.one (show Tag _ b _ from(show b=W4.heap.size from e)▸bR.tag)) (by decide),by omega⟩));have HL19:=Hd (show SlT9 (fun b=>w.heap.size≤b) W19 z.1 (.slice ta nl tc) from SlT9.turn hl9 hc19 (fun b hb hy=>⟨fun e=>by have:b=W4.heap.size:=e;omega,by omega⟩));have HF19:=Hd hf19;obtain⟨j0,j1,j2,j3,j4,j5⟩:=b19.get6;clear hl9 he9 bT bR hW19 b19 hc19 hf19;go_wp2_with fail
 refine bodyPost_ret (v:=.agg #[.int .i64 5,.int .i64 0,.int .i64 0,.int .i64 0,(.slice none 0 0),(.slice ta nl tc)]) ?_ rfl (.ok HR9.o ⟨[.int .i64 5,.int .i64 0,.int .i64 0,.int .i64 0,(.slice none 0 0),(.slice ta nl tc)],rfl,RT9_iff.2 ⟨_,_,rfl,HE19.o,HL19.o⟩,HM19.o,HF19.o,C9.o⟩);simp[results,results149,go_sem,j0,j1,j2,j3,j4,j5]
theorem k1a(db eb:Nat)(w:World):
 CallsD Tryz.prog 34 #[.pointer (some ⟨db,0,none⟩),.pointer (some ⟨eb,0,none⟩)] .returning w fun e u' w'=>e=.returned (.tuple #[])∧u'=.returning∧w'=w:=by
 refine callsD_of_wpS func34 rfl fun c₀ cs hu=>?_
 apply wpS_seq;apply wpS_region;simp[wpOpsS,go_sem,recoverD,hu,ntmps34,Exit.thenS];refine wpS_of_wp ?_;go_wp2_with fail
 cases c₀
 simp_all [bodyPostS,results,results34]
theorem j6i(db eb:Nat)(u0 u1 u2:Value)(e0 c:Int)(w:World)(hd:Blk w db 50 [u0,u1,u2])(he:Blk w eb 51 [.int .i64 e0]):
 CallsD Tryz.prog 34 #[.pointer (some ⟨db,0,none⟩),.pointer (some ⟨eb,0,none⟩)] (.panicking (z2c c)) w fun e u' w'=>
  e=.returned (.tuple #[])∧u'=.panicking [{v:=.iface 92 (.agg #[.int .i64 c]),recovered:=true}]∧Blk w' db 50 [.slice none 0 0,.slice none 0 0,.slice none 0 0]∧Blk w' eb 51 [.int .i64 c]∧Chg (fun k=>k=db∨k=eb) w w':=by
 obtain⟨W1,hW1,hx1,hb1⟩:=z4w w (.int .i64 c) 92;have hV1:=hW1.symm;have HX1:=Hd hx1;have HB1:=Hd hb1;have HD:=Hd (hd.ext hx1);have HE:=Hd (he.ext hx1);have hdw:=hd.lt;have hew:=he.lt;clear hW1 hx1 hb1 hd he;have hta:∀w:World,(Instr.typeAssert (.iface 92 (.agg #[.int .i64 c])) 20 92 true).run Tryz.prog w=.ok (.tuple #[.agg #[.int .i64 c],.bool true]) w:=fun _=>by kernel_rfl
 unfold z2c;refine callsD_of_wpS func34 rfl fun c₀ cs hu=>?_
 apply wpS_seq;apply wpS_region;simp[wpOpsS,go_sem,recoverD,hu,ntmps34,Exit.thenS];refine wpS_of_wp ?_;go_wp2_with fail
 have hde:db≠eb:=fun e=>absurd (HD.o.tag.one (e▸HE.o.tag)) (by decide)
 have hwd:w.heap.size≠db:=by omega
 have hwe:w.heap.size≠eb:=by omega
 change Code.wp _ _ _ {tmps:=#[.pointer (some ⟨db,0,none⟩),.pointer (some ⟨eb,0,none⟩),undef,.pointer (some ⟨w.heap.size,0,none⟩),undef,.iface 92 (.agg #[.int .i64 c]),undef,.bool false,.tuple #[.agg #[.int .i64 c],.bool true],.bool true,.agg #[.int .i64 c],undef,undef,undef],defers:=[]} W1
 refine z1y 4 (eqS [3] [.agg #[.slice none 0 0,.slice none 0 0,.slice none 0 0],.pointer (some ⟨w.heap.size,0,none⟩),.int .i64 c,undef]) (chJ [(3,fun τ w'=>Blk w' db 50 [u0,u1,u2]∧Chg (fun k=>k=db) W1 w')] (fun τ w'=>Blk w' db 50 [.slice none 0 0,.slice none 0 0,.slice none 0 0]∧Chg (fun k=>k=db) W1 w')) (fun _ _=>False) (by kernel_rfl) (fun _ _ _ _ h=>h) (by kernel_rfl) (by kernel_rfl) ?_ (z6u _ ⟨HD.o,(y1u _ W1).drew⟩) ?_ (fun A ch w hd hp=>hp.elim) ?_
 ·simp[GuardsMet]
 ·refine⟨?_,?_,?_,?_,trivial⟩;rotate_left 3
  ·refine StepI.chain 0 rfl (by kernel_rfl) (by kernel_rfl) ?_;intro A wa hsz hj hd h0;have q0:=z0d hd 0 11 (by kernel_rfl) rfl;simp[eqS] at q0;have r0:=z0c h0 0 (by kernel_rfl);simp at r0;replace hj:Blk wa db 50 [u0,u1,u2]∧Chg (fun k=>k=db) W1 wa:=hj;obtain⟨hb,hcg⟩:=hj;obtain⟨k0,k1,k2⟩:=hb.get3;obtain⟨l0,l1,l2⟩:=hb.free3;have HP:=Hd (y1x (hb.store3 (.slice none 0 0) (.slice none 0 0) (.slice none 0 0)) (((hcg.setCell (p:=⟨db,0,none⟩) rfl (.slice none 0 0)).setCell (p:=⟨db,1,none⟩) rfl (.slice none 0 0)).setCell (p:=⟨db,2,none⟩) rfl (.slice none 0 0)));clear hd h0 hb hcg hsz;go_simp;first|exact⟨undef,rfl,trivial,HP.o⟩|exact⟨trivial,HP.o⟩|exact HP.o|exact⟨undef,trivial,HP.o⟩|exact⟨⟨undef,trivial⟩,HP.o⟩
  all_goals
   refine StepI.plain (S:=[3]) (T:=[]) (I:=Chg (fun k=>k=db) W1) (z5k (T:=[]) (fun τ τ' w hT hj=>hj) _ ⟨fun τ τ' w hT hj=>hj,trivial⟩) (fun L τ w h=>q2b (I:=Chg (fun k=>k=db) W1) h (fun _ _ h=>h.2) ⟨fun _ _ h=>h.2,trivial⟩) (by decide) (by decide) ?_;intro A wa hI hd h0;try (have q1:=z0d hd 1 12 (by decide) rfl;simp[eqS] at q1)
   have r3:=z0c h0 3 (by kernel_rfl);simp at r3;have i0:=(hI.blk HB1.o hwd).cell 0;try simp only[List.getElem?_cons_succ,List.getElem?_cons_zero] at i0
   clear hd h0 hI;go_simp;first|exact⟨_,rfl,rfl,rfl⟩|exact⟨_,rfl,rfl⟩|exact⟨rfl,rfl⟩|exact rfl
 ·intro A wa hk;obtain⟨f,rfl,hdn,hrs,hj⟩:=hk.fin (n:=14) rfl;replace hj:(fun τ w'=>Blk w' db 50 [.slice none 0 0,.slice none 0 0,.slice none 0 0]∧Chg (fun k=>k=db) W1 w') f wa:=z9r _ rfl hj;have k13:f 13=.int .i64 c:=hdn 2 13 rfl rfl;have k1:=hrs 1 (by kernel_rfl);simp at k1;clear hdn hrs;simp only[List.drop_succ_cons,List.drop_zero];simp[List.range,List.range.loop,k13,k1];clear k13 k1;obtain⟨hb,hcg⟩:=hj;have he5:=hcg.blk HE.o (show¬eb=db from fun e=>hde e.symm);have j0:=he5.cell 0;simp only[List.getElem?_cons_zero] at j0;have j1:=he5.frozen 0
  have HP:=Hd (show Blk (wa.setCell ⟨eb,0,none⟩ (.int .i64 c)) db 50 [.slice none 0 0,.slice none 0 0,.slice none 0 0]∧Blk (wa.setCell ⟨eb,0,none⟩ (.int .i64 c)) eb 51 [.int .i64 c]∧Chg (fun k=>k=db∨k=eb) w (wa.setCell ⟨eb,0,none⟩ (.int .i64 c)) from
   ⟨hb.far hde _,he5.store1 (.int .i64 c),(HX1.o.chg.trans (hcg.mono (fun _ _ h=>.inl h))).setCell (p:=⟨eb,0,none⟩) (.inr rfl) _⟩)
  clear hb hcg he5;go_wp2_with fail
  cases c₀
  simp_all [bodyPostS,results,results34]
  exact HP.o
end Go.Proofs.YtlfmlodanoolhaaGreatDoor
