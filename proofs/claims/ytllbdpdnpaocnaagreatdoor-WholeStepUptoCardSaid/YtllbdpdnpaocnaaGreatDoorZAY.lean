/- Part of the proof of WholeStep. -/
import Derived.Test.YtllbdpdnpaocnaaGreatDoorZAX
namespace Go.Proofs.YtllbdpdnpaocnaaGreatDoor
set_option linter.unusedSimpArgs false
set_option linter.unusedVariables false
set_option linter.constructorNameAsVariable false
open Go.RowKit Go.Maps
def AA (p:PgT) (e:Ending) (w:World):Prop:=(∃n:Int,e=.returned (.tuple #[.pointer none,.int .i64 n])∧n≠0)∨
 (∃w1 gc c fL,e=.returned (.tuple #[.pointer (some ⟨gc,0,none⟩),.int .i64 0])∧CpS w1 w gc c p fL 5∧(fL.length:Int)=bI p.vrL∧c.F.N=fL.length∧c.P.N=p.pa.N∧vN p)
theorem vy (bh se:Int) (P:Sln) (m0 m1 m2 m3 m4:Int) (w:World):(Instr.build 87 #[(0,.int .i64 bh),(1,.int .i64 se),(3,.slice P.A P.N P.C),(5,.agg (i5 m0 m1 m2 m3 m4).toArray)]).run Tryz.prog w=.ok (.agg (cdC ⟨bh,se,ik,P,fun _=>ik,m0,m1,m2,m3,m4⟩).toArray) w:=by kernel_rfl
theorem vz (c:CdT) {k:Nat} (hk:k≤4):∃pre post:List Value,cdC c=pre ++ ([.slice (c.I k).A (c.I k).N (c.I k).C] ++ post)∧pre.length=4+k∧∀s:Sln,pre ++ ([.slice s.A s.N s.C] ++ post)=cdC (c.setI k s):=by
 have h4:([.int .i64 c.bh,.int .i64 c.seats,.slice c.F.A c.F.N c.F.C,.slice c.P.A c.P.N c.P.C]:List Value).length=4:=rfl;have:k=0∨k=1∨k=2∨k=3∨k=4:=by omega
 rcases this with rfl | rfl | rfl | rfl | rfl
 ·exact ⟨(cdC c).take 4,(cdC c).drop 5,rfl,rfl,fun s=>by simp [cdC,CdT.setI]⟩
 ·exact ⟨(cdC c).take 5,(cdC c).drop 6,rfl,rfl,fun s=>by simp [cdC,CdT.setI]⟩
 ·exact ⟨(cdC c).take 6,(cdC c).drop 7,rfl,rfl,fun s=>by simp [cdC,CdT.setI]⟩
 ·exact ⟨(cdC c).take 7,(cdC c).drop 8,rfl,rfl,fun s=>by simp [cdC,CdT.setI]⟩
 ·exact ⟨(cdC c).take 8,(cdC c).drop 9,rfl,rfl,fun s=>by simp [cdC,CdT.setI]⟩
theorem CpS.part {w8 w12 w13:World} {gc:Nat} {c:CdT} {p:PgT} {fL:List Int} {k:Nat} {s:Sln} {L:List aX} (h:CpS w8 w12 gc c p fL k) (hI:w12.ownsRow w8.heap.size 51 4 s.v s.N (L.flatMap ay)) (ho:(∀i∈L,eB i)∧1≤s.N∧s.N≤2048) (hg:w12.grownBy w13 (some gc)) (hk:Bk w13 gc 87 (cdC (c.setI k s))):CpS w8 w13 gc (c.setI k s) p fL (k+1):=
 ⟨ag h.hb hg h.hb.size h.gl,hk,h.gl,h.bh,bx h.pa hg (aP h.pa h.bk (by decide)),bx h.fr hg (aP h.fr h.bk (by decide)),h.fk,fun j hj=>by
  by_cases hjk:j=k
  ·subst hjk;have e:(c.setI j s).I j=s:=by simp [CdT.setI]
   rw [e];exact ⟨L,bx hI hg (aP hI h.bk (by decide)),ho⟩
  ·have e:(c.setI k s).I j=c.I j:=by simp [CdT.setI,hjk]
   rw [e];obtain ⟨L',h1,h2⟩:=h.ins j (by omega);exact ⟨L',bx h1 hg (aP h1 h.bk (by decide)),h2⟩⟩
theorem ra (z:Int) : -2147483648≤IntKind.i32.wrap z∧IntKind.i32.wrap z≤2147483647:=by simp [IntKind.wrap,IntKind.signed,IntKind.bits];omega
theorem zN (x:Int) (w:World):(Instr.buildSlice 27 1 #[(0,.int .i32 x)]).run Tryz.prog w=.ok (.slice (some ⟨w.heap.size,0,none⟩) 1 1) (w.alloc (.cells #[.int .i32 x] 21)):=by kernel_rfl
set_option maxRecDepth 100000 in
set_option maxHeartbeats 8000000 in
theorem pN (w:World) (p:PgT) (h:cI w w.heap.size p) (hL:cX w) (h12:p.size≤1200):Calls Tryz.prog 17 #[.agg (pgC p).toArray] w fun e w'=>AA p e w'∧Below w.heap.size w w':=by
 obtain ⟨z,hz⟩:∃z,w.heap.size=z:=⟨_,rfl⟩;have hz6:6≤z:=hz▸hL.six;obtain ⟨w1,hw1⟩:∃w1,w.alloc (.cells (pgC p).toArray 66)=w1:=⟨_,rfl⟩;have hk:Bk w1 z 66 (pgC p):=hw1▸Bk.at_ w _ _ hz rfl;have hb:Below w.heap.size w w1:=hw1▸ai w _;have HW:=aa hw1;have HB:=aa hb;have HZ:=aa hz;have HP:=aa hk;have HPG:=aa (h.later hb);have HP0:=aa (h.below hb);have HLD:=aa (hL.below (hz▸hz6) hb);have hfew:=h.few;have H12:=aa h12;clear hk hw1 h hb hz hL h12 hz6;go_enter Tryz.func17,Tryz.ntmps17;go_upto_region 1 with fail
 rw [HW.out,HZ.out];go_wp2_with (with_reducible refine aj rfl 66 _ rfl z rfl (pgC p) 66 HP.out _ Tryz.underlying66 rfl (db p) ?_)
 refine (rn w1 p HPG.out HLD.out).mono ?_;rintro e w2 ⟨⟨n2,s2,rfl,hg2⟩,hbn⟩;have HB2:=aa hbn;have HG2:=aa hg2;clear hbn hg2;go_wp2_with (with_reducible refine ah 110 _ _ rfl ?_)
 refine ak.go ?_;obtain ⟨g4,hg4⟩:∃q,w2.heap.size=q:=⟨_,rfl⟩;rw [hg4];refine an 110 _ _ rfl g4 hg4 [.int .i64 n2,.string s2] rfl rfl rfl rfl (gV _ _) (tx _ _) ?_;intro w3 hk hbn;have HF3:=aa hk;have HB3:=aa (ab HB2.out hbn);clear hk hbn hg4;have e0:w3.cell? ⟨g4,0,none⟩=some (.int .i64 n2):=HF3.cell 0;by_cases hn:n2=0;rotate_left
 ·go_wp2_with fail
  refine wp_region_held_drew (S:=fun wk=>wk.cell? ⟨g4,0,none⟩=some (.int .i64 n2)) (by kernel_rfl) e0 (fun hHeld=>?_);have HB4:=aa (ab HB3.out (ac w3 w3.heap.size 1));refine tk 0 ?_;refine tk 2 ?_;refine tkv 1 rfl (fun w hSw=>by have hcell:=hSw;clear hSw;go_simp;try with_reducible rfl) ?_;refine tk 3 ?_;refine wpAnyH_done rfl ?_ _;go_wp2_with fail
  go_ret2;exact ⟨.inl ⟨n2,rfl,hn⟩,ab HB.out HB4.out⟩
 subst hn;have HGD:Hid (vN p):=HG2.out rfl;have d4:w3.cell? ⟨z,4,none⟩=some (.slice p.st.A p.st.N p.st.C):=(HP.later HB3.out).cell 4;have d5:w3.cell? ⟨z,5,none⟩=some (.slice p.tu.A p.tu.N p.tu.C):=(HP.later HB3.out).cell 5;have d7:w3.cell? ⟨z,7,none⟩=some (.slice p.pl.A p.pl.N p.pl.C):=(HP.later HB3.out).cell 7;have d9:w3.cell? ⟨z,9,none⟩=some (.slice p.qu.A p.qu.N p.qu.C):=(HP.later HB3.out).cell 9;have d10:w3.cell? ⟨z,10,none⟩=some (.slice p.py.A p.py.N p.py.C):=(HP.later HB3.out).cell 10;have hbs:∀w,(Instr.build 112 #[(0,.slice p.st.A p.st.N p.st.C),(1,.slice p.tu.A p.tu.N p.tu.C),(2,.slice p.pl.A p.pl.N p.pl.C),(3,.slice p.qu.A p.qu.N p.qu.C),(4,.slice p.py.A p.py.N p.py.C)]).run Tryz.prog w=.ok (.agg #[.slice p.st.A p.st.N p.st.C,.slice p.tu.A p.tu.N p.tu.C,.slice p.pl.A p.pl.N p.pl.C,.slice p.qu.A p.qu.N p.qu.C,.slice p.py.A p.py.N p.py.C]) w:=fun w=>pY p.st p.tu p.pl p.qu p.py w;go_wp2_with (with_reducible refine ah 112 _ _ rfl ?_)
 refine ak.go ?_;obtain ⟨g5,hg5⟩:∃q,w3.heap.size=q:=⟨_,rfl⟩;rw [hg5];refine an 112 _ _ rfl g5 hg5 (s5 p) rfl rfl rfl rfl (ol p) (zM p) ?_;intro w4 hk hbn;have HQ4:=aa hk;have HB4:=aa (ab HB3.out hbn);clear hk hbn hg5 d4 d5 d7 d9 d10 hbs e0;go_wp2_with (with_reducible refine aj rfl 112 _ rfl g5 rfl (s5 p) 112 HQ4.out _ Tryz.underlying112 rfl (ol p) ?_)
 go_loopw [7,34] (fun _ i wr=>∃(k:Nat),k≤5∧i=.int .i64 k∧Hid (∀j,j < k→(ptL p j).size≤256)∧Hid (Below w1.heap.size w1 wr)∧Hid (Below w4.heap.size w4 wr)) (fun _ i _=>5 - (intOf i).toNat)
 case atStart=>exact ⟨0,by omega,rfl,(fun j hj=>by omega),HB4.out,Below.refl _ _⟩
 case round=>
  obtain ⟨k,hk,rfl,hz,hB,hB4⟩:=hrel;by_cases hlt:k < 5
  ·have hk5:(k:Int) < 5:=by omega
   have hix:=zb p (k:=k) (by omega);have HPI:=aa (sM (HPG.later hB.out) (k:=k) (by omega));have hcp:=zL (HPG.later hB.out) (k:=k) (by omega);have hbp:=tv (ptS p k) (ptL p k);obtain ⟨sz,hsz⟩:∃sz,(ptL p k).size=sz:=⟨_,rfl⟩;have HSZ:=aa hsz;have HC:Hid (∀wk,Below wr.heap.size wr wk→Calls Tryz.prog 50 #[.agg (pgC (stP (ptS p k) (ptL p k))).toArray] wk fun e w'=>e=.returned (.int .i64 (sz:Int))∧Below wk.heap.size wk w'):=fun wk hb=>by have:=nz wk (stP (ptS p k) (ptL p k)) (zF (HPI.out.1.later hb) hcp (by have:=HPI.out.2;omega));rw [pM,hsz] at this;exact this
   clear hcp hsz;unfold s5;go_wp2_with fail
   clear hix hbp;refine (HC.out wr (Below.refl _ _)).mono ?_;rintro e w6 ⟨rfl,hbn⟩;have HB6:=aa (ab hB.out hbn);have HB64:=aa (ab hB4.out hbn);clear hbn;by_cases hg:(256:Int) < sz
   ·go_wp2_with fail
    go_ret2;exact ⟨.inl ⟨5,rfl,by decide⟩,ab HB.out HB6.out⟩
   ·go_wp2_with fail
    go_roundw
    case rel=>exact ⟨k+1,by omega,by go_num,(fun j hj=>by
     by_cases hjk:j=k
     ·subst hjk;rw [HSZ.out];omega
     ·exact hz.out j (by omega)),HB6.out,HB64.out⟩
    case measure=>simp [intOf];omega
  ·obtain rfl:k=5:=by omega
   obtain ⟨w6,rfl⟩:∃x,x=wr:=⟨_,rfl⟩;have HB6:=aa hB.out;have HB64:=aa hB4.out;have HSZ:=aa hz.out;clear hB hB4 hz;go_wp2_with (with_reducible refine aj rfl 66 _ rfl z rfl (pgC p) 66 (HP.out.later HB6.out) _ Tryz.underlying66 rfl (db p) ?_)
   refine (tQ w6 p (HPG.later HB6.out)).mono ?_;rintro e w7 ⟨⟨a0,a1,a2,a3,a4,n7,rfl,hn7⟩,hbn⟩;have HB7:=aa (ab HB6.out hbn);have HB74:=aa (ab HB64.out hbn);clear hbn hn7;go_wp2_with (with_reducible refine ah 85 _ _ rfl ?_)
   refine ak.go ?_;obtain ⟨g8,hg8⟩:∃q,w7.heap.size=q:=⟨_,rfl⟩;rw [hg8];refine an 85 _ _ rfl g8 hg8 (i5 a0 a1 a2 a3 a4) rfl rfl rfl rfl (da _ _ _ _ _) (iC _ _ _ _ _) ?_;intro w8 hk hbn;have HS8:=aa hk;have HB8:=aa (ab HB7.out hbn);have HB84:=aa (ab HB74.out hbn);clear hk hbn hg8;by_cases hn:n7=0;rotate_left
   ·go_wp2_with fail
    go_ret2;exact ⟨.inl ⟨n7,rfl,hn⟩,ab HB.out HB8.out⟩
   subst hn;have HSF:Hid (∀wk,Below w8.heap.size w8 wk→(Bk wk z 66 (pgC p)∧Bk wk g8 85 (i5 a0 a1 a2 a3 a4))):=fun wk hb=>⟨HP.later (ab HB8.out hb),HS8.later hb⟩;have HQB:Hid (∀wk,Below w8.heap.size w8 wk→Bk wk g5 112 (s5 p)):=fun wk hb=>HQ4.later (ab HB84.out hb);have hpn:p.pa.N≤1048576:=by have:=HPG.pa.len;unfold PgT.size at hfew;omega
   go_wp2_with fail
   go_cut [10] (fun p10 wx=>∃(gc:Nat) (c:CdT),p10=.pointer (some ⟨gc,0,none⟩)∧Hid (CpS w8 wx gc c p [] 0)∧Hid (c.F=ik∧c.P.N=p.pa.N))
   case first=>
    refine wp_region_held_drew (S:=fun wk=>Bk wk z 66 (pgC p)∧Bk wk g8 85 (i5 a0 a1 a2 a3 a4)) (by kernel_rfl) (HSF.out _ (ac w8 _ 1)) (fun hHeld=>?_);obtain ⟨w9,hw9⟩:∃wa,w8.drew=wa:=⟨_,rfl⟩;have hb9:Below w8.heap.size w8 w9:=hw9▸ac w8 w8.heap.size 1;rw [hw9] at hHeld ⊢;have HB9:=aa hb9;clear hw9 hb9;refine tkR 0 (pgC p) (fun w hSw=>(Bk.range (pre:=[]) (post:=[]) (by simpa using hSw.1) rfl)) Tryz.underlying66 ((db p)) ?_;refine tk 2 ?_;refine tk 4 ?_;refine tkR 7 (i5 a0 a1 a2 a3 a4) (fun w hSw=>(Bk.range (pre:=[]) (post:=[]) (by simpa using hSw.2) rfl)) Tryz.underlying85 ((da _ _ _ _ _)) ?_;refine tkv 3 rfl (fun w hSw=>by have hcell:=(show w.cell? ⟨z,1,none⟩=some (.int .i64 p.seats) from hSw.1.cell 1);clear hSw;go_simp;try with_reducible rfl) ?_;refine tkv 5 rfl (fun w hSw=>by have hcell:=(show w.cell? ⟨z,6,none⟩=some (.slice p.pa.A p.pa.N p.pa.C) from hSw.1.cell 6);clear hSw;go_simp;try with_reducible rfl) ?_;refine rd1 1 (fun K hK=>?_);go_simp
    (refine (lU w9 p (HPG.later (ab HB8.out HB9.out))).mono ?_;rintro e w10 ⟨rfl,hbn⟩;have HB10:=aa (ab HB9.out hbn);clear hbn)
    refine so hK (HSF.out _ HB10.out) (fun hHeld=>?_);clear hK K;refine rd1 6 (fun K hK=>?_);go_simp
    (refine (mM w10 p.pa.A p.pa.N p.pa.C p.paL (HPG.later (ab HB8.out HB10.out)).pa hpn).mono ?_;rintro e w11 ⟨⟨v11,rfl,hown⟩,hbn⟩;obtain ⟨A11,C11,rfl⟩:=aI hown;have HO11:=aa (dB hown HB10.size);have HB11:=aa (ab HB10.out hbn);clear hown hbn)
    refine so hK (HSF.out _ HB11.out) (fun hHeld=>?_);clear hK K;refine wpAnyH_take (i:=8) (v:=.agg (List.toArray (cdC ⟨bI p.vrL,p.seats,ik,⟨A11,p.pa.N,C11⟩,fun _=>ik,a0,a1,a2,a3,a4⟩))) rfl (by kernel_rfl) (by kernel_rfl) (by kernel_rfl) (fun _ _ _ h=>h) (bF (by rfl) _ _ rfl #[(0,.int .i64 (bI p.vrL)),(1,.int .i64 p.seats),(3,.slice A11 p.pa.N C11),(5,.agg (i5 a0 a1 a2 a3 a4).toArray)] (by simp [Act.eval]) _ (vy (bI p.vrL) p.seats ⟨A11,p.pa.N,C11⟩ a0 a1 a2 a3 a4)) (by assumption) ?_;try simp only [Act.put,q1,q2,q3,q4,q5,q6]
    refine wpAnyH_ready (rs:=[9]) (by kernel_rfl) (by simp) ?_;refine AllReadyH.cons rfl (fun Kx hK=>?_) AllReadyH.nil;go_simp;obtain ⟨gc,hgc⟩:∃q,w11.heap.size=q:=⟨_,rfl⟩;obtain ⟨w12,hw12⟩:∃wa,w11.alloc (.cells (cdC ⟨bI p.vrL,p.seats,ik,⟨A11,p.pa.N,C11⟩,fun _=>ik,a0,a1,a2,a3,a4⟩).toArray 87)=wa:=⟨_,rfl⟩;have hbn:Below w11.heap.size w11 w12:=hw12▸ai w11 _;have HV12:Hid (Bk w12 gc 87 (cdC ⟨bI p.vrL,p.seats,ik,⟨A11,p.pa.N,C11⟩,fun _=>ik,a0,a1,a2,a3,a4⟩)):=by show Bk _ _ _ _;rw [←hw12,←hgc];exact Bk.new' _ _ _ rfl
    have HG12:Hid (w8.heap.size≤gc):=by have:=HB11.size;show _≤_;omega
    have HB12:=aa (ab HB11.out hbn);have HO12:=aa (az HO11.out hbn);rw [hw12,hgc];clear hw12 hgc hbn;refine so hK (HSF.out _ HB12.out) (fun hHeld=>?_);clear hK Kx;refine tk 10 ?_;refine wpAnyH_done rfl ?_ _;go_wp2_with fail
    go_meet;exact ⟨gc,_,rfl,⟨HB12.out,HV12.out,HG12.out,rfl,HO12.out,World.ownsRow_nil _ _ _ _,(by intro z hz;cases hz),(fun j hj=>by omega)⟩,rfl,rfl⟩
   obtain ⟨gc,c,rfl,HCS,HC2⟩:=hcut;refine ‹∀(a:Act) (w:World),Code.wp _ _ _ a w→_› _ _ ?_;obtain ⟨w9,rfl⟩:∃x,x=wc:=⟨_,rfl⟩;have c3:w9.cell? ⟨z,3,none⟩=some (.slice p.vr.A p.vr.N p.vr.C):=(HSF.out _ HCS.hb).1.cell 3;go_wp2_with fail
   clear c3;have HPV:Hid (el w8 w8.heap.size p.vr.A p.vr.N p.vrL):=(HPG.later HB8.out).vr;have hvn:p.vr.N≤1048576:=by have:=HPV.len;unfold PgT.size at hfew;omega
   have hcF:c.setF ik=c:=by rw [CdT.setF,←HC2.out.1]
   go_loopw [12,63] (fun _ i wr=>∃(k:Nat) (s:Sln) (fL:List Int),k≤p.vr.N∧i=.int .i64 k∧Hid (CpS w8 wr gc (c.setF s) p fL 0)∧Hid ((fL.length:Int)+bI (p.vrL.drop k)=bI p.vrL)∧Hid (s.N=fL.length)) (fun _ i _=>p.vr.N - (intOf i).toNat)
   case atStart=>exact ⟨0,ik,[],Nat.zero_le _,rfl,(by show CpS _ _ _ _ _ _ _;rw [hcF];exact HCS.out),(by show _=_;simp),rfl⟩
   case round=>
    obtain ⟨k,s,fL,hk,rfl,hC,hsum,hsN⟩:=hrel;by_cases hlt:k < p.vr.N
    ·obtain ⟨b,o,x,hA,hb,hr,hx,hok⟩:=(HPV.below hC.out.hb).spot hlt;have HR:=aa hr;have hvg:=HGD.out.1.1 x (List.mem_of_getElem? hx);have hc64:=HGD.out.1.2;obtain ⟨q,hq⟩:∃q:Nat,eO x=q:=⟨(eO x).toNat,by have:=iZ x;omega⟩;have hqx:max x.sz 1=(q:Int):=by
      unfold rg dt at hvg;simp at hvg;rw [←hq];unfold eO dt;by_cases h1:1≤x.sz
      ·rw [if_pos (by simp;omega)];omega
      ·rw [if_neg (by simp;omega)];omega
     have hss:=hsum.out;rw [dJ hx,bI,hq] at hss;have hrn:=eY (p.vrL.drop (k+1));have HSS:=aa hss;have HL64:Hid ((fL.length:Int)+q≤64):=by show _≤_;omega
     have hq64:q≤64:=by omega
     have hkN:(k:Int) < p.vr.N:=by omega
     clear hr hx hok hvg hq hss hrn hc64 hsum hb;rw [hA];go_wp2_with (first | (with_reducible refine wpList_load_mid rfl 117 _ rfl b (o+k*4) rfl (vaC x) _ HR.out Tryz.underlying117 rfl (aQ x) ?_) | (with_reducible refine ah 117 _ _ rfl ?_))
     refine ak.go ?_;obtain ⟨g3,hg3⟩:∃q,wr.heap.size=q:=⟨_,rfl⟩;rw [hg3];refine an 117 _ _ rfl g3 hg3 (vaC x) rfl rfl rfl rfl (aQ x) (bw x) ?_;intro w3 hk hbn;have HK3:=aa hk;have HB3:=aa hbn;clear hk hbn;have HC3:=aa (hC.out.later HB3.out);have e1:w3.cell? ⟨g3,1,none⟩=some (.int .i64 x.sz):=HK3.cell 1;go_wp2_with fail
     clear e1 hqx;go_loopw [70] (fun j wr=>∃(jn:Nat) (s' : Sln) (gL:List Int),jn≤q∧j=.int .i64 jn∧Hid (CpS w8 wr gc (c.setF s') p gL 0)∧Hid (gL.length=fL.length+jn)∧Hid (s'.N=gL.length)∧Hid (Bk wr g3 117 (vaC x))) (fun j _=>q - (intOf j).toNat)
     case atStart=>exact ⟨0,s,fL,Nat.zero_le _,rfl,HC3.out,rfl,hsN.out,HK3.out⟩
     case round=>
      obtain ⟨jn,s',gL,hj,rfl,hC',hgl,hsN',hK'⟩:=hrel;by_cases hjq:jn < q
      ·have hjN:(jn:Int) < q:=by omega
       have HSL:Hid (∀wk,Bk wk gc 87 (cdC (c.setF s'))→Bk wk g3 117 (vaC x)→(wk.cell? ⟨gc,2,none⟩=some (.slice s'.A s'.N s'.C)∧wk.cell? ⟨g3,2,none⟩=some (.int .i64 x.lo)∧wk.cell? ⟨g3,3,none⟩=some (.int .i64 x.hi))):=fun wk h1 h2=>⟨h1.cell 2,h2.cell 2,h2.cell 3⟩;go_wp2_with fail
       refine cJ [(16,fun wk=>wk.cell? ⟨gc,2,none⟩=some (.slice s'.A s'.N s'.C)∧wk.cell? ⟨g3,2,none⟩=some (.int .i64 x.lo)∧wk.cell? ⟨g3,3,none⟩=some (.int .i64 x.hi))] (by kernel_rfl) ⟨fun _=>HSL.out _ (hC'.out.bk.later (ac wr _ 1)) (hK'.out.later (ac wr _ 1)),trivial⟩ (fun hHeld=>?_);obtain ⟨w4',hw4'⟩:∃wa,wr.drew=wa:=⟨_,rfl⟩;have hb4:Below wr.heap.size wr w4':=hw4'▸ac wr wr.heap.size 1;rw [hw4'] at hHeld ⊢;have HC4:=aa (hC'.out.later hb4);have HK4:=aa (hK'.out.later hb4);clear hw4' hb4;refine tl 0 (fun hHeld=>?_);refine tl 1 (fun hHeld=>?_);refine tl 5 (fun hHeld=>?_);refine tl 8 (fun hHeld=>?_);refine tl 2 (fun hHeld=>?_);refine tlv 6 0 rfl rfl (fun w hSw=>by have hcell:=hSw.2.1;clear hSw;go_simp;try with_reducible rfl) (fun hHeld=>?_);refine tlv 9 0 rfl rfl (fun w hSw=>by have hcell:=hSw.2.2;clear hSw;go_simp;try with_reducible rfl) (fun hHeld=>?_);refine tl 3 (fun hHeld=>?_);refine tl 7 (fun hHeld=>?_);refine tlv 4 0 rfl rfl (fun w hSw=>by have hcell:=hSw.1;clear hSw;go_simp;try with_reducible rfl) (fun hHeld=>?_);refine tl 10 (fun hHeld=>?_);refine tl 11 (fun hHeld=>?_);obtain ⟨y,hy⟩:∃y,IntKind.i32.wrap (min (max 0 x.lo) x.hi)=y:=⟨_,rfl⟩;have HY:Hid (-2147483648≤y∧y≤2147483647):=by show _∧_;rw [←hy];exact ra _
       rw [hy];clear hy;refine bE (rs:=[12]) (by kernel_rfl) (by simp) ?_;refine aH.cons rfl (fun Kx hX=>?_) aH.nil;rw [if_pos (by rfl)];refine cL 27 1 _ rfl #[(0,.int .i32 y)] (by simp [Act.eval,Act.put]) _ _ (zN y w4') ?_;obtain ⟨qn,hqn⟩:∃q,w4'.heap.size=q:=⟨_,rfl⟩;obtain ⟨w5,hw5⟩:∃wx,w4'.alloc (.cells #[.int .i32 y] 21)=wx:=⟨_,rfl⟩;have hbn:Below w4'.heap.size w4' w5:=hw5▸ai w4' _;have HQ5:Hid (Bk w5 qn 21 [.int .i32 y]):=by show Bk _ _ _ _;rw [←hw5,←hqn];exact Bk.new' _ _ _ rfl
       have HC5:=aa (HC4.later hbn);have HK5:=aa (HK4.later hbn);rw [hw5,hqn];clear hw5 hqn hbn;refine hX.out _ _ ⟨fun _=>HSL.out w5 HC5.bk HK5.out,trivial⟩ (fun hHeld=>?_);clear hX Kx;try simp only [Act.put,q1,q2,q3,q4,q5,q6]
       refine bE (rs:=[13]) (by kernel_rfl) (by simp) ?_;refine aH.cons rfl (fun Kx hX=>?_) aH.nil;rw [if_pos (by rfl)];obtain ⟨i0,hif,hif0,hif1,hif2⟩:=info_parts Tryz.infoI32;have hsb:s'.N≤1000:=by have:=hsN'.out;have:=hgl.out;have:=HL64.out;omega
       refine fO _ (.tmp 76) (.tmp 84) 27 rfl w8.heap.size 21 i0 _ _ _ Tryz.underlying27 hif hif0 hif1 hif2 rfl (by decide) (.slice s'.A s'.N s'.C) s'.N (gL.map (.int .i32)) rfl HC5.fr _ _ _ _ _ rfl (show Sl w5 w5.heap.size 1 (some ⟨qn,0,none⟩) 1 ([y].map (Value.int .i32)) from HQ5.sl (n:=1) rfl (by omega) (fun _ _ h=>h)) (by intro u hu;simp at hu;subst hu;rfl) (by unfold maxLen;omega) (by omega) HC5.hb.size ?_;intro v9 w9' hown hg hat;have hg' : w5.grownBy w9' (c.setF s').F.v.ownBlock:=hg;have HG9:Hid (CpG w8 w9' gc (c.setF s') p v9 (s'.N+1) (gL ++ [y]) 0):=HC5.grown hg' (by rw [List.map_append];exact hown) (by
        intro u hu;rcases List.mem_append.1 hu with hu | hu
        ·exact HC5.fk u hu
        ·simp at hu;subst hu;exact HY.out)
       have HK9:=aa (HK5.grown hg' (Ne.symm (aP HC5.fr HK5.out (by decide))));clear hown hg hg' hat hif hif0 hif1 hif2 i0;refine hX.out _ _ ⟨fun _=>HSL.out w9' HG9.bk HK9.out,trivial⟩ (fun hHeld=>?_);clear hX Kx;try simp only [Act.put,q1,q2,q3,q4,q5,q6]
       refine tl 14 (fun hHeld=>?_);refine tl 15 (fun hHeld=>?_);obtain ⟨A9,C9,rfl⟩:=aI HG9.fr;refine qi 16 gc 2 (.slice A9 (s'.N+1) C9) [.slice A9 (s'.N+1) C9] 87 [.int .i64 c.bh,.int .i64 c.seats] [.slice s'.A s'.N s'.C] [.slice c.P.A c.P.N c.P.C,.slice (c.I 0).A (c.I 0).N (c.I 0).C,.slice (c.I 1).A (c.I 1).N (c.I 1).C,.slice (c.I 2).A (c.I 2).N (c.I 2).C,.slice (c.I 3).A (c.I 3).N (c.I 3).C,.slice (c.I 4).A (c.I 4).N (c.I 4).C,.int .i64 c.m0,.int .i64 c.m1,.int .i64 c.m2,.int .i64 c.m3,.int .i64 c.m4] HG9.bk (fun _=>⟨fun h=>jT h (by kernel_rfl),trivial⟩) (by intro v hv;simp at hv;subst hv;rfl) ?_;intro wz hp;try simp only [Act.put,q1,q2,q3,q4,q5,q6]
       have HCz:Hid (CpS w8 wz gc (c.setF ⟨A9,s'.N+1,C9⟩) p (gL ++ [y]) 0):=⟨ag HG9.hb hp.only HG9.hb.size HG9.gl,hp.bk,HG9.gl,HG9.bh,bx HG9.pa hp.only (aP HG9.pa HG9.bk (by decide)),bx HG9.fr hp.only (aP HG9.fr HG9.bk (by decide)),HG9.fk,fun j hj=>by omega⟩;have HKz:=aa (HK9.grown hp.only (fun e=>by injection e with e;exact HG9.bk.ne_ HK9.out (by decide) e.symm));clear hp;go_wp2_with fail
       go_roundw
       case rel=>exact ⟨jn+1,⟨A9,s'.N+1,C9⟩,gL ++ [y],by omega,by go_num,HCz.out,(by have:=hgl.out;show _=_;rw [List.length_append,this];rfl),(by have:=hsN'.out;show s'.N+1=_;rw [List.length_append,this];rfl),HKz.out⟩
       case measure=>simp [intOf];omega
      ·obtain rfl:jn=q:=by omega
       go_wp2_with fail
       go_roundw
       case rel=>exact ⟨k+1,s',gL,by omega,by go_num,hC'.out,(by have:=hgl.out;have:=HSS.out;show _=_;omega),hsN'.out⟩
       case measure=>simp [intOf];omega
    ·obtain ⟨w10,rfl⟩:∃x,x=wr:=⟨_,rfl⟩;obtain ⟨cf,hcf⟩:∃cf,c.setF s=cf:=⟨_,rfl⟩;have HC10:Hid (CpS w8 w10 gc cf p fL 0):=by show CpS _ _ _ _ _ _ _;rw [←hcf];exact hC.out
     have HF10:Hid ((fL.length:Int)=bI p.vrL∧cf.F.N=fL.length∧cf.P.N=p.pa.N):=by have h1:=hsum.out;rw [List.drop_eq_nil_of_le (by have:=HPV.len;omega)] at h1;refine ⟨by simpa [bI] using h1,by rw [←hcf];exact hsN.out,by rw [←hcf];exact HC2.out.2⟩
     clear hC hsum hsN hcf;go_wp2_with (with_reducible refine aj rfl 112 _ rfl g5 rfl (s5 p) 112 (HQB.out w10 HC10.out.hb) _ Tryz.underlying112 rfl (ol p) ?_)
     clear hlt hk;go_loopw [13,14,91] (fun _ _ i wr=>∃(k:Nat) (c' : CdT),k≤5∧i=.int .i64 k∧Hid (CpS w8 wr gc c' p fL k)∧Hid (c'.F=cf.F∧c'.P=cf.P)) (fun _ _ i _=>5 - (intOf i).toNat)
     case atStart=>exact ⟨0,cf,by omega,rfl,HC10.out,rfl,rfl⟩
     case round=>
      obtain ⟨k,c',hk,rfl,hC,hFP⟩:=hrel;by_cases hlt:k < 5
      ·have hk5:(k:Int) < 5:=by omega
       have hix:=zb p (k:=k) (by omega);unfold s5;go_wp2_with fail
       clear hix;have HPI:Hid (cE wr wr.heap.size (ptS p k).A (ptS p k).N (ptL p k)∧(ptL p k).size≤256):=⟨(sM (HPG.later (ab HB8.out hC.out.hb)) (k:=k) (by omega)).1,HSZ.out k (by omega)⟩;have HMK:Hid (∀wk,Below wr.heap.size wr wk→Calls Tryz.prog 54 #[.pointer (some ⟨gc,0,none⟩),.int .i64 k,.slice (ptS p k).A (ptS p k).N (ptS p k).C,.agg (pgC p).toArray] wk fun e w'=>wy wk.heap.size e w'∧Below wk.heap.size wk w'):=fun wk hb=>wA wk gc c'.bh k p (ptL p k) _ _ _ ((hC.out.bk.later hb).cell 0) (HPG.later (ab HB8.out (ab hC.out.hb hb))) (HPI.out.1.later hb) (xY HGD.out (by omega)) HPI.out.2 H12.out;refine wp_region_held_drew (S:=fun wk=>Bk wk z 66 (pgC p)) (by kernel_rfl) (HSF.out _ (ab hC.out.hb (ac wr wr.heap.size 1))).1 (fun hHeld=>?_);obtain ⟨w11,hw11⟩:∃wa,wr.drew=wa:=⟨_,rfl⟩;have hb11:Below wr.heap.size wr w11:=hw11▸ac wr wr.heap.size 1;rw [hw11] at hHeld ⊢;have HC11:=aa (hC.out.later hb11);have HB11:=aa hb11;clear hw11 hb11;refine tk 0 ?_;refine tk 1 ?_;refine tk 2 ?_;refine tk 3 ?_;refine tk 4 ?_;refine tkR 5 (pgC p) (fun w hSw=>(Bk.range (pre:=[]) (post:=[]) (by simpa using hSw) rfl)) Tryz.underlying66 ((db p)) ?_;refine tk 7 ?_;refine tk 8 ?_;refine rd1 6 (fun K hK=>?_);go_simp
       (refine (HMK.out w11 HB11.out).mono ?_;rintro e w12 ⟨⟨AI,nI,CI,LI,rfl,hown,hio,hn1,hn2⟩,hbn⟩;have HC12:=aa (HC11.later hbn);have HI12:=aa (dB hown HC11.hb.size);have HIO:Hid ((∀i∈LI,eB i)∧1≤nI∧nI≤2048):=⟨hio,hn1,hn2⟩;clear hown hio hn1 hn2 hbn)
       refine so hK ((HSF.out _ HC12.hb).1) (fun hHeld=>?_);clear hK K;refine tk 9 ?_;obtain ⟨pre,post,hsp,hpl,hset⟩:=vz c' (k:=k) (by omega);have hbk:=HC12.bk;rw [hsp] at hbk;refine rdw 10 (fun K hK=>?_);refine au _ _ _ rfl gc (4+k) (.slice AI nI CI) [.slice AI nI CI] (by go_simp) rfl rfl _ pre [.slice (c'.I k).A (c'.I k).N (c'.I k).C] post hbk hpl rfl (by kernel_rfl) (by intro v hv;simp at hv;subst hv;rfl) ?_;intro w13 hp;have HC13:Hid (CpS w8 w13 gc (c'.setI k ⟨AI,nI,CI⟩) p fL (k+1)):=HC12.part (s:=⟨AI,nI,CI⟩) HI12.out HIO.out hp.only (by rw [←hset ⟨AI,nI,CI⟩];exact hp.bk);clear hp hbk hset hsp hpl;refine so hK (HSF.out _ HC13.hb).1 (fun hHeld=>?_);clear hK K;refine wpAnyH_done rfl ?_ _;go_wp2_with fail
       go_roundw
       case rel=>exact ⟨k+1,c'.setI k ⟨AI,nI,CI⟩,by omega,by go_num,HC13.out,hFP.out⟩
       case measure=>simp [intOf];omega
      ·obtain rfl:k=5:=by omega
       go_wp2_with fail
       go_ret2;exact ⟨.inr ⟨w8,gc,c',fL,rfl,hC.out,HF10.out.1,by rw [hFP.out.1];exact HF10.out.2.1,by rw [hFP.out.2];exact HF10.out.2.2,HGD.out⟩,ab HB.out (ab HB8.out hC.out.hb)⟩
theorem iA.go {w w' : World} {B B' : Nat} {kd:Int} {nm:ByteArray} {A:Option Addr} {N C:Nat} {E:Es} {lo hi:Int} {A1:Option Addr} {N1 C1:Nat} {L:Ss} {A2:Option Addr} {N2 C2:Nat} {M:Ss} (h:iA w B kd nm A N C E lo hi A1 N1 C1 L A2 N2 C2 M) (hb:Below B w w') (hB:B≤B'):iA w' B' kd nm A N C E lo hi A1 N1 C1 L A2 N2 C2 M:=
 ⟨h.kd,h.lo,h.hi,h.nm,(h.e.below hb).more hB,(h.l.below hb).more hB,(h.m.below hb).more hB,h.ec,h.lc,h.mc⟩
set_option maxRecDepth 20000 in
set_option maxHeartbeats 2000000 in
theorem rW (F:Ss) (ih:∀G:Ss,G.size < F.size→mi G):mi F:=by
 intro w p A N C l A' N' C' part deep top hkn hNb hF hsz hp5;obtain ⟨z,hz⟩:∃z,w.heap.size=z:=⟨_,rfl⟩;obtain ⟨w1,hw1⟩:∃w1,(w.alloc (.cells (kwC p A N C).toArray 128)).alloc (.cells #[.int .i64 0,.string ⟨#[]⟩] 69)=w1:=⟨_,rfl⟩;have hk:Bk w1 z 128 (kwC p A N C):=hw1▸(Bk.at_ w _ _ hz rfl).alloc _;have hf:Bk w1 (z+1) 69 [.int .i64 0,.string ⟨#[]⟩]:=hw1▸Bk.at_ _ _ _ (by simp [hz]) rfl;have hb:Below w.heap.size w w1:=hw1▸(ai w _).alloc (by simp) _;have HW:=aa hw1;have HZ:=aa hz;have HB:=aa hb;have HKW:=aa hk;have HK:=aa hf;have HKN:=aa (hkn.later hb);have HF0:=aa (hF.below hb);have HIH:=aa ih;have hN2:N'≤F.size:=by have:=hF.len;have:=Ss.len_size F;omega
 clear hw1 hz hb hk hf hkn hF ih;go_enter Tryz.func62,Tryz.ntmps62;go_upto_region 1 with fail
 rw [HW.out,HZ.out];go_wp2_with fail
 go_loopw [11,12] (fun i _ wr=>∃(k:Nat),k≤N'∧i=.int .i64 k∧Hid (Below w1.heap.size w1 wr)) (fun i _ _=>N' - (intOf i).toNat)
 case atStart=>exact ⟨0,Nat.zero_le _,rfl,Below.refl _ _⟩
 case round=>
  obtain ⟨k,hk,rfl,hB⟩:=hrel;by_cases hlt:k < N'
  ·obtain ⟨b,o,kd,nm,A3,N3,C3,E,lo,hi,A4,N4,C4,L,A5,N5,C5,M,rest,hA,hb,hr,e1,e2,hS,hsz3⟩:=HF0.spot hlt;have HR1:=aa hr;have HB0:=aa hb;have HA:=aa hA;have hkN:(k:Int) < N':=by omega
   have HC:Hid (∀wk,Below w1.heap.size w1 wk→∀{last:Bool},Calls Tryz.prog 127 #[.agg (kwC p A N C).toArray,.agg (aR kd nm A3 N3 C3 lo hi A4 N4 C4 A5 N5 C5).toArray,.int .i64 part,.int .i64 deep,.bool last] wk fun e w'=>iJ e∧Below wk.heap.size wk w'):=fun wk hb last=>um wk p A N C l kd nm A3 N3 C3 E lo hi A4 N4 C4 L A5 N5 C5 M part deep last (HKN.later hb) (by omega) ⟨by omega,by omega,by omega⟩ (iA.go hS (hb.mono HB.size) (Nat.le_trans HB.size hb.size)) hp5 (HIH.out L (by omega)) (HIH.out M (by omega));have HS:Hid (∀wk,Below w1.heap.size w1 wk→(Bk wk z 128 (kwC p A N C)∧wk.rangeAt b (o+k*7) (aR kd nm A3 N3 C3 lo hi A4 N4 C4 A5 N5 C5))):=fun wk hb=>⟨HKW.later hb,eo HR1.out hb (Nat.lt_of_lt_of_le HB0.out HB.size)⟩;clear hS hr e1 e2 hb;subst hA;go_wp2_with fail
   go_cut [12] from 13 to 38 (fun p7 wx=>∃(gf:Nat) (fn:Int) (fs:ByteArray),p7=.pointer (some ⟨gf,0,none⟩)∧Hid (Bk wx gf 69 [.int .i64 fn,.string fs])∧Hid (Below w1.heap.size w1 wx))
   case first=>
    refine wp_region_held_drew (S:=fun wk=>Bk wk z 128 (kwC p A N C)∧wk.rangeAt b (o+k*7) (aR kd nm A3 N3 C3 lo hi A4 N4 C4 A5 N5 C5)) (by kernel_rfl) (HS.out _ (ab hB.out (ac wr wr.heap.size 1))) (fun hHeld=>?_);obtain ⟨w6,hw6⟩:∃wa,wr.drew=wa:=⟨_,rfl⟩;have hb6:Below wr.heap.size wr w6:=hw6▸ac wr wr.heap.size 1;rw [hw6] at hHeld ⊢;have HB6:=aa (ab hB.out hb6);clear hw6 hb6;refine tkR 0 (kwC p A N C) (fun w hSw=>(Bk.range (pre:=[]) (post:=[]) (by simpa using hSw.1) rfl)) Tryz.underlying128 ((dy _ _ _ _)) ?_;refine tk 1 ?_;refine tk 2 ?_;refine tk 5 ?_;refine tk 6 ?_;refine tk 7 ?_;refine tk 3 ?_;refine tk 8 ?_;refine tkR 4 (aR kd nm A3 N3 C3 lo hi A4 N4 C4 A5 N5 C5) (fun w hSw=>hSw.2) Tryz.underlying133 ((lj _ _ _ _ _ _ _ _ _ _ _ _ _)) ?_;cases top with
    | false=>
     refine tk0 9 ?_;refine tk0 10 ?_;refine tk0 11 ?_;refine tk0 12 ?_;refine tk0 13 ?_;refine tk 14 ?_;refine wpAnyH_ready (rs:=[15,16]) (by kernel_rfl) (by simp) ?_;refine AllReadyH.cons rfl (fun Kx hK=>?_) (AllReadyH.cons rfl (fun Kx hK=>?_) AllReadyH.nil)
     ·go_simp;refine (HC.out w6 HB6.out).mono ?_;rintro e wa ⟨⟨fn,fs,rfl⟩,hbn⟩;have HBa:=aa (ab HB6.out hbn);clear hbn;refine so hK (HS.out wa HBa.out) (fun hHeld=>?_);clear hK Kx;refine wpAnyH_ready (rs:=[16]) (by kernel_rfl) (by simp) ?_;refine AllReadyH.cons rfl (fun Kx hK=>?_) AllReadyH.nil;go_simp;obtain ⟨gf,hgf⟩:∃q,wa.heap.size=q:=⟨_,rfl⟩;obtain ⟨wb,hwb⟩:∃wx,wa.alloc (.cells #[.int .i64 0,.string ⟨#[]⟩] 69)=wx:=⟨_,rfl⟩;have hbn:Below wa.heap.size wa wb:=hwb▸ai wa _;have HKFb:Hid (Bk wb gf 69 [.int .i64 0,.string ⟨#[]⟩]):=by show Bk _ _ _ _;rw [←hwb,←hgf];exact Bk.new' _ _ _ rfl
      have HGF:Hid (w1.heap.size≤gf):=by have:=HBa.size;show _≤_;omega
      have HBb:=aa (ab HBa.out hbn);rw [hwb,hgf];clear hwb hgf hbn;refine so hK (HS.out wb HBb.out) (fun hHeld=>?_);clear hK Kx;refine rdw 17 (fun K hK=>?_);refine au _ _ _ rfl gf 0 (.agg #[.int .i64 fn,.string fs]) [.int .i64 fn,.string fs] rfl rfl rfl _ [] [.int .i64 0,.string ⟨#[]⟩] [] (by simpa using HKFb.out) rfl rfl (al _ _) (ax _ _) ?_;intro wz hp;have hbk:Bk wz gf 69 [.int .i64 fn,.string fs]:=by have:=hp.bk;simpa using this
      have HKz:=aa hbk;have HBz:=aa (ag HBb.out hp.only HBb.size HGF.out);clear hp hbk;refine so hK (HS.out wz HBz.out) (fun hHeld=>?_);clear hK K;refine wpAnyH_done rfl ?_ _;go_wp2_with fail
      go_meet;exact ⟨gf,fn,fs,rfl,HKz.out,HBz.out⟩
     ·
      go_simp;obtain ⟨gf,hgf⟩:∃q,w6.heap.size=q:=⟨_,rfl⟩;obtain ⟨wb,hwb⟩:∃wx,w6.alloc (.cells #[.int .i64 0,.string ⟨#[]⟩] 69)=wx:=⟨_,rfl⟩;have hbn:Below w6.heap.size w6 wb:=hwb▸ai w6 _;have HKFb:Hid (Bk wb gf 69 [.int .i64 0,.string ⟨#[]⟩]):=by show Bk _ _ _ _;rw [←hwb,←hgf];exact Bk.new' _ _ _ rfl
      have HGF:Hid (w1.heap.size≤gf):=by have:=HB6.size;show _≤_;omega
      have HBb:=aa (ab HB6.out hbn);rw [hwb,hgf];clear hwb hgf hbn;refine so hK (HS.out wb HBb.out) (fun hHeld=>?_);clear hK Kx;refine wpAnyH_ready (rs:=[15]) (by kernel_rfl) (by simp) ?_;refine AllReadyH.cons rfl (fun Kx hK=>?_) AllReadyH.nil;go_simp;refine (HC.out wb HBb.out).mono ?_;rintro e wd ⟨⟨fn,fs,rfl⟩,hbn⟩;have HBd:=aa (ab HBb.out hbn);have HKFd:=aa (HKFb.later hbn);clear hbn;refine so hK (HS.out wd HBd.out) (fun hHeld=>?_);clear hK Kx;refine rdw 17 (fun K hK=>?_);refine au _ _ _ rfl gf 0 (.agg #[.int .i64 fn,.string fs]) [.int .i64 fn,.string fs] rfl rfl rfl _ [] [.int .i64 0,.string ⟨#[]⟩] [] (by simpa using HKFd.out) rfl rfl (al _ _) (ax _ _) ?_;intro wz hp;have hbk:Bk wz gf 69 [.int .i64 fn,.string fs]:=by have:=hp.bk;simpa using this
      have HKz:=aa hbk;have HBz:=aa (ag HBd.out hp.only HBd.size HGF.out);clear hp hbk;refine so hK (HS.out wz HBz.out) (fun hHeld=>?_);clear hK K;refine wpAnyH_done rfl ?_ _;go_wp2_with fail
      go_meet;exact ⟨gf,fn,fs,rfl,HKz.out,HBz.out⟩
    | true=>
     refine tk 9 ?_;refine tk 10 ?_;refine tk 11 ?_;refine tk 12 ?_;refine tk 13 ?_;refine tk 14 ?_;refine wpAnyH_ready (rs:=[15,16]) (by kernel_rfl) (by simp) ?_;refine AllReadyH.cons rfl (fun Kx hK=>?_) (AllReadyH.cons rfl (fun Kx hK=>?_) AllReadyH.nil)
     ·go_simp;refine (HC.out w6 HB6.out).mono ?_;rintro e wa ⟨⟨fn,fs,rfl⟩,hbn⟩;have HBa:=aa (ab HB6.out hbn);clear hbn;refine so hK (HS.out wa HBa.out) (fun hHeld=>?_);clear hK Kx;refine wpAnyH_ready (rs:=[16]) (by kernel_rfl) (by simp) ?_;refine AllReadyH.cons rfl (fun Kx hK=>?_) AllReadyH.nil;go_simp;obtain ⟨gf,hgf⟩:∃q,wa.heap.size=q:=⟨_,rfl⟩;obtain ⟨wb,hwb⟩:∃wx,wa.alloc (.cells #[.int .i64 0,.string ⟨#[]⟩] 69)=wx:=⟨_,rfl⟩;have hbn:Below wa.heap.size wa wb:=hwb▸ai wa _;have HKFb:Hid (Bk wb gf 69 [.int .i64 0,.string ⟨#[]⟩]):=by show Bk _ _ _ _;rw [←hwb,←hgf];exact Bk.new' _ _ _ rfl
      have HGF:Hid (w1.heap.size≤gf):=by have:=HBa.size;show _≤_;omega
      have HBb:=aa (ab HBa.out hbn);rw [hwb,hgf];clear hwb hgf hbn;refine so hK (HS.out wb HBb.out) (fun hHeld=>?_);clear hK Kx;refine rdw 17 (fun K hK=>?_);refine au _ _ _ rfl gf 0 (.agg #[.int .i64 fn,.string fs]) [.int .i64 fn,.string fs] rfl rfl rfl _ [] [.int .i64 0,.string ⟨#[]⟩] [] (by simpa using HKFb.out) rfl rfl (al _ _) (ax _ _) ?_;intro wz hp;have hbk:Bk wz gf 69 [.int .i64 fn,.string fs]:=by have:=hp.bk;simpa using this
      have HKz:=aa hbk;have HBz:=aa (ag HBb.out hp.only HBb.size HGF.out);clear hp hbk;refine so hK (HS.out wz HBz.out) (fun hHeld=>?_);clear hK K;refine wpAnyH_done rfl ?_ _;go_wp2_with fail
      go_meet;exact ⟨gf,fn,fs,rfl,HKz.out,HBz.out⟩
     ·
      go_simp;obtain ⟨gf,hgf⟩:∃q,w6.heap.size=q:=⟨_,rfl⟩;obtain ⟨wb,hwb⟩:∃wx,w6.alloc (.cells #[.int .i64 0,.string ⟨#[]⟩] 69)=wx:=⟨_,rfl⟩;have hbn:Below w6.heap.size w6 wb:=hwb▸ai w6 _;have HKFb:Hid (Bk wb gf 69 [.int .i64 0,.string ⟨#[]⟩]):=by show Bk _ _ _ _;rw [←hwb,←hgf];exact Bk.new' _ _ _ rfl
      have HGF:Hid (w1.heap.size≤gf):=by have:=HB6.size;show _≤_;omega
      have HBb:=aa (ab HB6.out hbn);rw [hwb,hgf];clear hwb hgf hbn;refine so hK (HS.out wb HBb.out) (fun hHeld=>?_);clear hK Kx;refine wpAnyH_ready (rs:=[15]) (by kernel_rfl) (by simp) ?_;refine AllReadyH.cons rfl (fun Kx hK=>?_) AllReadyH.nil;go_simp;refine (HC.out wb HBb.out).mono ?_;rintro e wd ⟨⟨fn,fs,rfl⟩,hbn⟩;have HBd:=aa (ab HBb.out hbn);have HKFd:=aa (HKFb.later hbn);clear hbn;refine so hK (HS.out wd HBd.out) (fun hHeld=>?_);clear hK Kx;refine rdw 17 (fun K hK=>?_);refine au _ _ _ rfl gf 0 (.agg #[.int .i64 fn,.string fs]) [.int .i64 fn,.string fs] rfl rfl rfl _ [] [.int .i64 0,.string ⟨#[]⟩] [] (by simpa using HKFd.out) rfl rfl (al _ _) (ax _ _) ?_;intro wz hp;have hbk:Bk wz gf 69 [.int .i64 fn,.string fs]:=by have:=hp.bk;simpa using this
      have HKz:=aa hbk;have HBz:=aa (ag HBd.out hp.only HBd.size HGF.out);clear hp hbk;refine so hK (HS.out wz HBz.out) (fun hHeld=>?_);clear hK K;refine wpAnyH_done rfl ?_ _;go_wp2_with fail
      go_meet;exact ⟨gf,fn,fs,rfl,HKz.out,HBz.out⟩
   obtain ⟨gfq,fnq,fsq,rfl,HKFq,HBbq⟩:=hcut;obtain ⟨wbq,rfl⟩:∃x,x=wc:=⟨_,rfl⟩;refine ‹∀(a:Act) (w:World),Code.wp _ _ _ a w→_› _ _ ?_;go_wp2_with fail
   refine wp_region_held_drew (S:=fun wk=>Bk wk gfq 69 [.int .i64 fnq,.string fsq]) (by kernel_rfl) (HKFq.later (ac wbq _ 1)) (fun hHeld=>?_);obtain ⟨wcq,hwc⟩:∃wx,wbq.drew=wx:=⟨_,rfl⟩;have hb:Below wbq.heap.size wbq wcq:=hwc▸ac wbq wbq.heap.size 1;rw [hwc] at hHeld ⊢;have HBcq:=aa (ab HBbq.out hb);have HKcq:=aa (HKFq.later hb);clear hwc hb;refine tkR 0 ([.int .i64 fnq,.string fsq]) (fun w hSw=>(Bk.range (pre:=[]) (post:=[]) (by simpa using hSw) rfl)) Tryz.underlying69 ((al _ _)) ?_;refine rd1 1 (fun K hK=>?_);go_simp
   (refine (ca wcq).mono ?_;rintro e wdq ⟨rfl,hbn⟩;have HBdq:=aa (ab HBcq.out hbn);have HKdq:=aa (HKcq.later hbn);clear hbn)
   refine so hK (HKdq.out) (fun hHeld=>?_);clear hK K;obtain ⟨qfq,hqf⟩:=kj fnq fsq;refine tk 2 ?_;clear hqf;refine wpAnyH_done rfl ?_ _;cases qfq with
   | false=>
    go_wp2_with (first | (with_reducible refine aj rfl 69 _ rfl gfq rfl [.int .i64 fnq,.string fsq] 69 HKdq.out _ Tryz.underlying69 rfl (al _ _) ?_) | (with_reducible refine ah 69 _ _ rfl ?_))
    refine ak.go ?_;refine ae rfl 69 _ _ rfl (z+1) 0 (.agg #[.int .i64 fnq,.string fsq]) [.int .i64 fnq,.string fsq] rfl rfl rfl 69 [] [.int .i64 0,.string ⟨#[]⟩] [] (by simpa using HK.later HBdq.out) rfl rfl (al _ _) (ax _ _) ?_;intro wz hp;have hbk:Bk wz (z+1) 69 [.int .i64 fnq,.string fsq]:=by have:=hp.bk;simpa using this
    have HBKz:=aa hbk;have HBz:=aa (ag (ab HB.out (HBdq.out)) hp.only (ab HB.out (HBdq.out)).size (by have:=HZ.out;omega));clear hp hbk;go_wp2_with fail
    refine bodyPost_ret (am rfl _ _ (z+1) 69 [.int .i64 fnq,.string fsq] _ rfl HBKz.out Tryz.underlying69 rfl (al _ _)) rfl ?_;exact ⟨⟨_,_,rfl⟩,HBz.out⟩
   | true=>
    go_wp2_with fail
    go_roundw
    case rel=>exact ⟨k+1,by omega,by go_num,HBdq.out⟩
    case measure=>simp [intOf];omega
  ·
   go_wp2_with fail
   refine (ca _).mono ?_;rintro e wf ⟨rfl,hbn⟩;have HBf:=aa (ab hB.out hbn);clear hbn;go_wp2_with (with_reducible refine ah 69 _ _ rfl ?_)
   refine ak.go ?_;refine ae rfl 69 _ _ rfl (z+1) 0 (.agg #[.int .i64 0,.string ⟨#[]⟩]) [.int .i64 0,.string ⟨#[]⟩] rfl rfl rfl 69 [] [.int .i64 0,.string ⟨#[]⟩] [] (by simpa using HK.later HBf.out) rfl rfl (al _ _) (ax _ _) ?_;intro wz hp;have hbk:Bk wz (z+1) 69 [.int .i64 0,.string ⟨#[]⟩]:=by have:=hp.bk;simpa using this
   have HBKz:=aa hbk;have HBz:=aa (ag (ab HB.out (HBf.out)) hp.only (ab HB.out (HBf.out)).size (by have:=HZ.out;omega));clear hp hbk;go_wp2_with fail
   refine bodyPost_ret (am rfl _ _ (z+1) 69 [.int .i64 0,.string ⟨#[]⟩] _ rfl HBKz.out Tryz.underlying69 rfl (al _ _)) rfl ?_;exact ⟨⟨_,_,rfl⟩,HBz.out⟩
theorem rX (F:Ss):mi F:=by
 obtain ⟨m,hm⟩:∃m,F.size=m:=⟨_,rfl⟩;induction m using Nat.strongRecOn generalizing F with
 | ind m ih=>exact rW F fun G hG=>ih G.size (by omega) G rfl
end Go.Proofs.YtllbdpdnpaocnaaGreatDoor
