/- Part of the proof of WholeStep. -/
import Derived.Test.YtllbdpdnpaocnaaGreatDoorZAR
import Derived.Deep.CutBlock
namespace Go.Proofs.YtllbdpdnpaocnaaGreatDoor
set_option linter.unusedSimpArgs false
set_option linter.unusedVariables false
set_option linter.constructorNameAsVariable false
open Go.RowKit Go.Maps
def rP (p:PgT):Bool:=decide (p.size≤1200) && decide (p.sk.N≤20)
set_option maxRecDepth 20000 in
theorem sL (w:World) (p:PgT) (h:cI w w.heap.size p):Calls Tryz.prog 16 #[.agg (pgC p).toArray] w fun e w'=>e=.returned (.bool (rP p))∧Below w.heap.size w w':=by
 obtain ⟨z,hz⟩:∃z,w.heap.size=z:=⟨_,rfl⟩;obtain ⟨w1,hw1⟩:∃w1,w.alloc (.cells (pgC p).toArray 26)=w1:=⟨_,rfl⟩;have hk:Bk w1 z 26 (pgC p):=hw1▸Bk.at_ w _ _ hz rfl;have hb:Below w.heap.size w w1:=hw1▸ai w _;obtain ⟨q,hq⟩:∃q,rP p=q:=⟨_,rfl⟩;rw [hq];have HW:=aa hw1;have HB:=aa hb;have HZ:=aa hz;have HK:=aa hk;have HP:=aa (h.later hb);have HQ:=aa hq;clear hk hw1 hz hb h hq;go_enter Tryz.func16,Tryz.ntmps16;go_upto_region 1 with fail
 rw [HW.out,HZ.out];go_wp2_with (with_reducible refine aj rfl 26 _ rfl z rfl (pgC p) 26 HK.out _ Tryz.underlying26 rfl (ct p) ?_)
 refine (nx w1 p HP.out).mono ?_;rintro e w2 ⟨rfl,hbn⟩;have HB2:=aa (ab HB.out hbn);have c2:w2.cell? ⟨z,2,none⟩=some (.slice p.sk.A p.sk.N p.sk.C):=(HK.later hbn).cell 2;clear hbn;by_cases h1:(p.size:Int)≤1200
 ·go_wp2_with fail
  go_ret;refine ⟨?_,HB2.out⟩;rw [←HQ.out,rP];have e1:decide (p.size≤1200)=true:=by simp;omega
  rw [e1];simp;try (congr 1;simp)
  try omega
 ·go_wp2_with fail
  go_ret;refine ⟨?_,HB2.out⟩;rw [←HQ.out,rP];have e1:decide (p.size≤1200)=false:=by simp;omega
  rw [e1];simp
def ptS (p:PgT) (k:Nat):Sln:=match k with | 0=>p.st | 1=>p.tu | 2=>p.pl | 3=>p.qu | _=>p.py
def ptL (p:PgT) (k:Nat):Ss:=match k with | 0=>p.stL | 1=>p.tuL | 2=>p.plL | 3=>p.quL | _=>p.pyL
theorem sM {w:World} {B:Nat} {p:PgT} (h:cI w B p) {k:Nat} (hk:k≤4):cE w B (ptS p k).A (ptS p k).N (ptL p k)∧(ptL p k).size≤p.size:=by
 have:k=0∨k=1∨k=2∨k=3∨k=4:=by omega
 rcases this with rfl | rfl | rfl | rfl | rfl
 ·exact ⟨h.st,by show p.stL.size≤_;unfold PgT.size;omega⟩
 ·exact ⟨h.tu,by show p.tuL.size≤_;unfold PgT.size;omega⟩
 ·exact ⟨h.pl,by show p.plL.size≤_;unfold PgT.size;omega⟩
 ·exact ⟨h.qu,by show p.quL.size≤_;unfold PgT.size;omega⟩
 ·exact ⟨h.py,by show p.pyL.size≤_;unfold PgT.size;omega⟩
theorem ue (s0 s1 s2 s3 s4:Sln) (w:World):(Instr.buildSlice 125 5 #[(0,s0.v),(1,s1.v),(2,s2.v),(3,s3.v),(4,s4.v)]).run Tryz.prog w=.ok (.slice (some ⟨w.heap.size,0,none⟩) 5 5) (w.alloc (.cells #[s0.v,s1.v,s2.v,s3.v,s4.v] 24)):=by kernel_rfl
set_option maxRecDepth 20000 in
theorem wC (w:World) (p:PgT) (k:Nat) (hk:k≤4):Calls Tryz.prog 65 #[.agg (pgC p).toArray,.int .i64 k] w fun e w'=>e=.returned (.slice (ptS p k).A (ptS p k).N (ptS p k).C)∧Below w.heap.size w w':=by
 obtain ⟨z,hz⟩:∃z,w.heap.size=z:=⟨_,rfl⟩;obtain ⟨w1,hw1⟩:∃w1,w.alloc (.cells (pgC p).toArray 26)=w1:=⟨_,rfl⟩;have hk1:Bk w1 z 26 (pgC p):=hw1▸Bk.at_ w _ _ hz rfl;have hb:Below w.heap.size w w1:=hw1▸ai w _;have HW:=aa hw1;have HB:=aa hb;have HZ:=aa hz;have c4:w1.cell? ⟨z,4,none⟩=some (.slice p.st.A p.st.N p.st.C):=hk1.cell 4;have c5:w1.cell? ⟨z,5,none⟩=some (.slice p.tu.A p.tu.N p.tu.C):=hk1.cell 5;have c7:w1.cell? ⟨z,7,none⟩=some (.slice p.pl.A p.pl.N p.pl.C):=hk1.cell 7;have c9:w1.cell? ⟨z,9,none⟩=some (.slice p.qu.A p.qu.N p.qu.C):=hk1.cell 9;have c10:w1.cell? ⟨z,10,none⟩=some (.slice p.py.A p.py.N p.py.C):=hk1.cell 10;clear hk1 hw1 hz hb;have:k=0∨k=1∨k=2∨k=3∨k=4:=by omega
 rcases this with rfl | rfl | rfl | rfl | rfl
 ·show Calls _ _ _ _ fun e w'=>e=.returned (.slice p.st.A p.st.N p.st.C)∧_;go_enter Tryz.func65,Tryz.ntmps65;go_upto_region 1 with fail
  rw [HW.out,HZ.out];go_wp2_with (with_reducible refine a8 125 _ _ rfl ?_)
  refine ak.go ?_;refine ar rfl 125 5 _ rfl #[(0,p.st.v),(1,p.tu.v),(2,p.pl.v),(3,p.qu.v),(4,p.py.v)] ?_ 24 [p.st.v,p.tu.v,p.pl.v,p.qu.v,p.py.v] (fun w=>ue _ _ _ _ _ w) ?_
  ·simp [Act.eval,Act.put,Sln.v]
  intro q2 w2 hq2 hb2 hbn;have HB2:=aa (ab HB.out hbn);have cK:w2.cell? ⟨q2,0,none⟩=some (.slice p.st.A p.st.N p.st.C):=hb2.cell 0;clear hq2 hb2 hbn c4 c5 c7 c9 c10;go_wp2_with fail
  go_ret;exact ⟨rfl,HB2.out⟩
 ·show Calls _ _ _ _ fun e w'=>e=.returned (.slice p.tu.A p.tu.N p.tu.C)∧_;go_enter Tryz.func65,Tryz.ntmps65;go_upto_region 1 with fail
  rw [HW.out,HZ.out];go_wp2_with (with_reducible refine a8 125 _ _ rfl ?_)
  refine ak.go ?_;refine ar rfl 125 5 _ rfl #[(0,p.st.v),(1,p.tu.v),(2,p.pl.v),(3,p.qu.v),(4,p.py.v)] ?_ 24 [p.st.v,p.tu.v,p.pl.v,p.qu.v,p.py.v] (fun w=>ue _ _ _ _ _ w) ?_
  ·simp [Act.eval,Act.put,Sln.v]
  intro q2 w2 hq2 hb2 hbn;have HB2:=aa (ab HB.out hbn);have cK:w2.cell? ⟨q2,1,none⟩=some (.slice p.tu.A p.tu.N p.tu.C):=hb2.cell 1;clear hq2 hb2 hbn c4 c5 c7 c9 c10;go_wp2_with fail
  go_ret;exact ⟨rfl,HB2.out⟩
 ·show Calls _ _ _ _ fun e w'=>e=.returned (.slice p.pl.A p.pl.N p.pl.C)∧_;go_enter Tryz.func65,Tryz.ntmps65;go_upto_region 1 with fail
  rw [HW.out,HZ.out];go_wp2_with (with_reducible refine a8 125 _ _ rfl ?_)
  refine ak.go ?_;refine ar rfl 125 5 _ rfl #[(0,p.st.v),(1,p.tu.v),(2,p.pl.v),(3,p.qu.v),(4,p.py.v)] ?_ 24 [p.st.v,p.tu.v,p.pl.v,p.qu.v,p.py.v] (fun w=>ue _ _ _ _ _ w) ?_
  ·simp [Act.eval,Act.put,Sln.v]
  intro q2 w2 hq2 hb2 hbn;have HB2:=aa (ab HB.out hbn);have cK:w2.cell? ⟨q2,2,none⟩=some (.slice p.pl.A p.pl.N p.pl.C):=hb2.cell 2;clear hq2 hb2 hbn c4 c5 c7 c9 c10;go_wp2_with fail
  go_ret;exact ⟨rfl,HB2.out⟩
 ·show Calls _ _ _ _ fun e w'=>e=.returned (.slice p.qu.A p.qu.N p.qu.C)∧_;go_enter Tryz.func65,Tryz.ntmps65;go_upto_region 1 with fail
  rw [HW.out,HZ.out];go_wp2_with (with_reducible refine a8 125 _ _ rfl ?_)
  refine ak.go ?_;refine ar rfl 125 5 _ rfl #[(0,p.st.v),(1,p.tu.v),(2,p.pl.v),(3,p.qu.v),(4,p.py.v)] ?_ 24 [p.st.v,p.tu.v,p.pl.v,p.qu.v,p.py.v] (fun w=>ue _ _ _ _ _ w) ?_
  ·simp [Act.eval,Act.put,Sln.v]
  intro q2 w2 hq2 hb2 hbn;have HB2:=aa (ab HB.out hbn);have cK:w2.cell? ⟨q2,3,none⟩=some (.slice p.qu.A p.qu.N p.qu.C):=hb2.cell 3;clear hq2 hb2 hbn c4 c5 c7 c9 c10;go_wp2_with fail
  go_ret;exact ⟨rfl,HB2.out⟩
 ·show Calls _ _ _ _ fun e w'=>e=.returned (.slice p.py.A p.py.N p.py.C)∧_;go_enter Tryz.func65,Tryz.ntmps65;go_upto_region 1 with fail
  rw [HW.out,HZ.out];go_wp2_with (with_reducible refine a8 125 _ _ rfl ?_)
  refine ak.go ?_;refine ar rfl 125 5 _ rfl #[(0,p.st.v),(1,p.tu.v),(2,p.pl.v),(3,p.qu.v),(4,p.py.v)] ?_ 24 [p.st.v,p.tu.v,p.pl.v,p.qu.v,p.py.v] (fun w=>ue _ _ _ _ _ w) ?_
  ·simp [Act.eval,Act.put,Sln.v]
  intro q2 w2 hq2 hb2 hbn;have HB2:=aa (ab HB.out hbn);have cK:w2.cell? ⟨q2,4,none⟩=some (.slice p.py.A p.py.N p.py.C):=hb2.cell 4;clear hq2 hb2 hbn c4 c5 c7 c9 c10;go_wp2_with fail
  go_ret;exact ⟨rfl,HB2.out⟩
set_option maxRecDepth 20000 in
theorem wD (w:World) (p:PgT) (h:cI w w.heap.size p):Calls Tryz.prog 20 #[.agg (pgC p).toArray] w fun e w'=>fq e∧Below w.heap.size w w':=by
 obtain ⟨z,hz⟩:∃z,w.heap.size=z:=⟨_,rfl⟩;obtain ⟨w1,hw1⟩:∃w1,w.alloc (.cells (pgC p).toArray 26)=w1:=⟨_,rfl⟩;have hk:Bk w1 z 26 (pgC p):=hw1▸Bk.at_ w _ _ hz rfl;have hb:Below w.heap.size w w1:=hw1▸ai w _;have HW:=aa hw1;have HB:=aa hb;have HZ:=aa hz;have HK:=aa hk;have HP:=aa (h.later hb);clear hk hw1 hz hb h;go_enter Tryz.func20,Tryz.ntmps20;go_upto_region 1 with fail
 rw [HW.out,HZ.out];go_wp2_with fail
 go_loopw [3] (fun i wr=>∃k:Nat,k≤5∧i=.int .i64 k∧Hid (Below w1.heap.size w1 wr)) (fun i _=>5 - (intOf i).toNat)
 case atStart=>exact ⟨0,by omega,rfl,Below.refl _ _⟩
 case round=>
  obtain ⟨k,hk,rfl,hB⟩:=hrel;by_cases hlt:k < 5
  ·have HKr:=aa (HK.later hB.out);have HPr:=aa (HP.later hB.out);have hk5:(k:Int) < 5:=by omega
   have HPI:=aa (sM HPr.out (k:=k) (by omega));go_wp2_with (with_reducible refine aj rfl 26 _ rfl z rfl (pgC p) 26 HKr.out _ Tryz.underlying26 rfl (ct p) ?_)
   refine (wC wr p k (by omega)).mono ?_;rintro e w3 ⟨rfl,hbn⟩;have HB3:=aa hbn;clear hbn;go_wp2_with fail
   refine (nu (ptL p k) w3 (ptS p k).A (ptS p k).N (ptS p k).C (HPI.out.1.later HB3.out) (Nat.le_trans HPI.out.2 HPr.few)).mono ?_;rintro e w4 ⟨rfl,q,rfl⟩;have HB4:=aa (ab hB.out (ab HB3.out (ac w3 w3.heap.size q)));by_cases hg:(256:Int) < (ptL p k).size
   ·go_wp2_with fail
    go_ret;exact ⟨⟨_,rfl⟩,ab HB.out HB4.out⟩
   ·go_wp2_with fail
    go_roundw
    case rel=>exact ⟨k+1,by omega,by go_num,HB4.out⟩
    case measure=>simp [intOf];omega
  ·go_wp2_with fail
   go_ret;exact ⟨⟨_,rfl⟩,ab HB.out hB.out⟩
def ik:Sln:=⟨none,0,0⟩
def stP (s:Sln) (F:Ss):PgT:=⟨⟨#[]⟩,0,ik,[],ik,[],s,F,ik,.nil,ik,[],ik,.nil,⟨#[]⟩,ik,.nil,ik,.nil⟩
theorem pM (s:Sln) (F:Ss):(stP s F).size=F.size:=by simp [PgT.size,stP,Ss.size]
theorem zF {w:World} {B:Nat} {s:Sln} {F:Ss} (h:cE w B s.A s.N F) (hc:s.N≤s.C) (hs:F.size≤1048576):cI w B (stP s F):=
 ⟨Sl.nil,el.nil _ _,h,cE.nil _ _,el.nil _ _,cE.nil _ _,cE.nil _ _,cE.nil _ _,⟨Nat.le_refl _,Nat.le_refl _,hc,Nat.le_refl _,Nat.le_refl _,Nat.le_refl _,Nat.le_refl _,Nat.le_refl _⟩,by rw [pM];exact hs,(by decide:(0:Nat)≤1048576),(by decide:(0:Nat)≤1048576),(by decide:(-9223372036854775808:Int)≤0∧(0:Int) < 9223372036854775808),(by decide:(0:Nat)≤1048576),by intro z hz;cases hz⟩
theorem tv (s:Sln) (F:Ss) (w:World):(Instr.build 66 #[(4,.slice s.A s.N s.C)]).run Tryz.prog w=.ok (.agg (pgC (stP s F)).toArray) w:=by kernel_rfl
theorem zG (p:PgT) (w:World):(Instr.index 112 (.agg #[.slice p.st.A p.st.N p.st.C,.slice p.tu.A p.tu.N p.tu.C,.slice p.pl.A p.pl.N p.pl.C,.slice p.qu.A p.qu.N p.qu.C,.slice p.py.A p.py.N p.py.C]) (.int .i64 0)).run Tryz.prog w=.ok (.slice p.st.A p.st.N p.st.C) w:=by kernel_rfl
theorem zH (p:PgT) (w:World):(Instr.index 112 (.agg #[.slice p.st.A p.st.N p.st.C,.slice p.tu.A p.tu.N p.tu.C,.slice p.pl.A p.pl.N p.pl.C,.slice p.qu.A p.qu.N p.qu.C,.slice p.py.A p.py.N p.py.C]) (.int .i64 1)).run Tryz.prog w=.ok (.slice p.tu.A p.tu.N p.tu.C) w:=by kernel_rfl
theorem zI (p:PgT) (w:World):(Instr.index 112 (.agg #[.slice p.st.A p.st.N p.st.C,.slice p.tu.A p.tu.N p.tu.C,.slice p.pl.A p.pl.N p.pl.C,.slice p.qu.A p.qu.N p.qu.C,.slice p.py.A p.py.N p.py.C]) (.int .i64 2)).run Tryz.prog w=.ok (.slice p.pl.A p.pl.N p.pl.C) w:=by kernel_rfl
theorem zJ (p:PgT) (w:World):(Instr.index 112 (.agg #[.slice p.st.A p.st.N p.st.C,.slice p.tu.A p.tu.N p.tu.C,.slice p.pl.A p.pl.N p.pl.C,.slice p.qu.A p.qu.N p.qu.C,.slice p.py.A p.py.N p.py.C]) (.int .i64 3)).run Tryz.prog w=.ok (.slice p.qu.A p.qu.N p.qu.C) w:=by kernel_rfl
theorem zK (p:PgT) (w:World):(Instr.index 112 (.agg #[.slice p.st.A p.st.N p.st.C,.slice p.tu.A p.tu.N p.tu.C,.slice p.pl.A p.pl.N p.pl.C,.slice p.qu.A p.qu.N p.qu.C,.slice p.py.A p.py.N p.py.C]) (.int .i64 4)).run Tryz.prog w=.ok (.slice p.py.A p.py.N p.py.C) w:=by kernel_rfl
theorem zb (p:PgT) {k:Nat} (hk:k≤4) (w:World):(Instr.index 112 (.agg #[.slice p.st.A p.st.N p.st.C,.slice p.tu.A p.tu.N p.tu.C,.slice p.pl.A p.pl.N p.pl.C,.slice p.qu.A p.qu.N p.qu.C,.slice p.py.A p.py.N p.py.C]) (.int .i64 k)).run Tryz.prog w=.ok (.slice (ptS p k).A (ptS p k).N (ptS p k).C) w:=by
 obtain ⟨i,hi⟩:∃i:Int,(k:Int)=i:=⟨_,rfl⟩;rw [hi];have:k=0∨k=1∨k=2∨k=3∨k=4:=by omega
 rcases this with rfl | rfl | rfl | rfl | rfl
 ·obtain rfl:i=0:=by omega
  exact zG p w
 ·obtain rfl:i=1:=by omega
  exact zH p w
 ·obtain rfl:i=2:=by omega
  exact zI p w
 ·obtain rfl:i=3:=by omega
  exact zJ p w
 ·obtain rfl:i=4:=by omega
  exact zK p w
theorem zL {w:World} {B:Nat} {p:PgT} (h:cI w B p) {k:Nat} (hk:k≤4):(ptS p k).N≤(ptS p k).C:=by
 have hc:=h.cap;have:k=0∨k=1∨k=2∨k=3∨k=4:=by omega
 rcases this with rfl | rfl | rfl | rfl | rfl
 ·exact hc.2.2.1
 ·exact hc.2.2.2.1
 ·exact hc.2.2.2.2.2.1
 ·exact hc.2.2.2.2.2.2.1
 ·exact hc.2.2.2.2.2.2.2
theorem xY {p:PgT} (h:vN p) {k:Nat} (hk:k≤4):ey (ptL p k):=by
 obtain ⟨_,_,h0,h1,h2,h3,h4⟩:=h;have:k=0∨k=1∨k=2∨k=3∨k=4:=by omega
 rcases this with rfl | rfl | rfl | rfl | rfl
 ·exact h0
 ·exact h1
 ·exact h2
 ·exact h3
 ·exact h4
def s5 (p:PgT):List Value:=[.slice p.st.A p.st.N p.st.C,.slice p.tu.A p.tu.N p.tu.C,.slice p.pl.A p.pl.N p.pl.C,.slice p.qu.A p.qu.N p.qu.C,.slice p.py.A p.py.N p.py.C]
theorem ol (p:PgT):(Tryz.prog.info? 112).map (·.size)=some (s5 p).length:=(show (Tryz.prog.info? 112).map (·.size)=some 5 by kernel_rfl)
theorem zM (p:PgT):∀v∈s5 p,v.oneCell'=true:=by intro v hv;simp only [s5,List.mem_cons,List.not_mem_nil,or_false] at hv;rcases hv with rfl | rfl | rfl | rfl | rfl <;> rfl
theorem tx (n:Int) (s:ByteArray):∀v∈([.int .i64 n,.string s]:List Value),v.oneCell'=true:=by intro v hv;simp at hv;rcases hv with rfl | rfl <;> rfl
theorem vx {w:World} {base size n base' size' n' q:Nat} {e e' : TypeId} {v v' : Value} {xs xs' : List Value} (h:w.ownsRow base e size v n xs) (h' : w.ownsRow base' e' size' v' n' xs') (he:e'≠e) (hq:v.ownBlock=some q):v'.ownBlock≠some q:=by
 rcases dA h with ⟨rfl,_⟩ | ⟨g',cap,zs,rfl,_,hb,_⟩
 ·simp [Value.ownBlock] at hq
 ·simp [Value.ownBlock] at hq;subst hq;exact aP h' hb he
theorem tz {w w' : World} {base size n base' size' n' : Nat} {e e' : TypeId} {v v' : Value} {xs xs' : List Value} (h:w.ownsRow base e size v n xs) (h' : w.ownsRow base' e' size' v' n' xs') (he:e'≠e) (hg:w.grownBy w' v'.ownBlock):w'.ownsRow base e size v n xs:=
 h.kept hg (by
  cases hq:v.ownBlock with
  | none=>exact .inl rfl
  | some q=>exact .inr (fun e=>vx h h' he hq e.symm))
structure CpS (w1 wk:World) (gc:Nat) (c:CdT) (p:PgT) (fL:List Int) (k:Nat):Prop where
 hb:Below w1.heap.size w1 wk
 bk:Bk wk gc 87 (cdC c)
 gl:w1.heap.size≤gc
 bh:c.bh=bI p.vrL
 pa:wk.ownsRow w1.heap.size 117 4 c.P.v c.P.N (p.paL.flatMap vaC)
 fr:wk.ownsRow w1.heap.size 21 1 c.F.v c.F.N (fL.map (.int .i32))
 fk:∀z∈fL,-2147483648≤z∧z≤2147483647
 ins:∀j,j < k→∃L:List aX,wk.ownsRow w1.heap.size 51 4 (c.I j).v (c.I j).N (L.flatMap ay)∧(∀i∈L,eB i)∧1≤(c.I j).N∧(c.I j).N≤2048
theorem CpS.later {w1 wk wk' : World} {gc:Nat} {c:CdT} {p:PgT} {fL:List Int} {k:Nat} (h:CpS w1 wk gc c p fL k) (hb:Below wk.heap.size wk wk'):CpS w1 wk' gc c p fL k:=
 ⟨ab h.hb hb,h.bk.later hb,h.gl,h.bh,az h.pa hb,az h.fr hb,h.fk,fun j hj=>by
  obtain ⟨L,h1,h2⟩:=h.ins j hj;exact ⟨L,az h1 hb,h2⟩⟩
def CdT.setF (c:CdT) (s:Sln):CdT:={ c with F:=s }
def CdT.setI (c:CdT) (k:Nat) (s:Sln):CdT:={ c with I:=fun j=>if j=k then s else c.I j }
structure CpG (w1 wk:World) (gc:Nat) (c:CdT) (p:PgT) (v:Value) (n:Nat) (fL:List Int) (k:Nat):Prop where
 hb:Below w1.heap.size w1 wk
 bk:Bk wk gc 87 (cdC c)
 gl:w1.heap.size≤gc
 bh:c.bh=bI p.vrL
 pa:wk.ownsRow w1.heap.size 117 4 c.P.v c.P.N (p.paL.flatMap vaC)
 fr:wk.ownsRow w1.heap.size 21 1 v n (fL.map (.int .i32))
 fk:∀z∈fL,-2147483648≤z∧z≤2147483647
theorem CpS.grown {w1 wk wk' : World} {gc:Nat} {c:CdT} {p:PgT} {fL gL:List Int} {v:Value} {n:Nat} (h:CpS w1 wk gc c p fL 0) (hg:wk.grownBy wk' c.F.v.ownBlock) (hr:wk'.ownsRow w1.heap.size 21 1 v n (gL.map (.int .i32))) (hk:∀z∈gL,-2147483648≤z∧z≤2147483647):CpG w1 wk' gc c p v n gL 0:=
 ⟨aB h.hb h.fr hg (Nat.le_refl _) h.hb.size,h.bk.grown hg (Ne.symm (aP h.fr h.bk (by decide))),h.gl,h.bh,tz h.pa h.fr (by decide) hg,hr,hk⟩
end Go.Proofs.YtllbdpdnpaocnaaGreatDoor
