/- Part of the proof of WholeStep. -/
import Derived.Test.YtllbdpdnpaocnaaGreatDoorZAC
import Derived.Maps.OwnSet
import Derived.Lib.FieldsLaws
import Derived.Lib.Space
import Derived.Shelf.Strings.Fields
namespace Go.Proofs.YtllbdpdnpaocnaaGreatDoor
set_option linter.unusedSimpArgs false
set_option linter.unusedVariables false
set_option linter.constructorNameAsVariable false
open Go.RowKit
section
variable {P:Program}
theorem an {ops:Array Oper} {rest:List Oper} {op:Oper} {a:Act} {w:World} {Q:Exit→Act→World→Prop} (ty:TypeId) (x y:Operand) (ho:op.op=.store ty x y) (g:Nat) (hg:w.heap.size=g) (cs:List Value) {T:TypeId} {Z:Array Value} (hgd:op.guard=none) (hz:Z.size=cs.length) (hx:a.eval x=.pointer (some ⟨g,0,none⟩)) (hy:a.eval y=.agg cs.toArray) (hi:(P.info? ty).map (·.size)=some cs.length) (h1:∀v∈cs,v.oneCell'=true) (h:∀w',Bk w' g T cs→Below w.heap.size w w'→wpList P ops Q rest (a.put op.dst undef) w'):wpList P ops Q (op :: rest) a (w.alloc (.cells Z T)):=by refine ae hgd ty x y ho g 0 (.agg cs.toArray) cs hx hy rfl T [] Z.toList [] (by simpa using (Bk.at_ w T Z hg rfl)) rfl (by simpa using hz) hi h1 fun w' hp=>?_;refine h w' (by have:=hp.bk;simpa using this) ?_;exact (ai w _).grown hp.only (ai w _).size (fun q hq=>by injection hq with hq;omega)
end
theorem gY (op n:Int) (nm:ByteArray) (A:Option Addr) (N C:Nat):∀v∈exC op n nm A N C,v.oneCell'=true:=by intro v hv;simp only [exC,List.mem_cons,List.not_mem_nil,or_false] at hv;rcases hv with rfl | rfl | rfl | rfl <;> rfl
theorem f4 (kd:Int) (nm:ByteArray) (A:Option Addr) (N C:Nat) (lo hi:Int) (A1:Option Addr) (N1 C1:Nat) (A2:Option Addr) (N2 C2:Nat):∀v∈aR kd nm A N C lo hi A1 N1 C1 A2 N2 C2,v.oneCell'=true:=by intro v hv;simp only [aR,List.mem_cons,List.not_mem_nil,or_false] at hv;rcases hv with rfl | rfl | rfl | rfl | rfl | rfl | rfl <;> rfl
theorem yr:(Tryz.prog.info? 257).map (·.size)=some 4:=by kernel_rfl
theorem aV (op n:Int) (nm:ByteArray) (A:Option Addr) (N C:Nat):(Tryz.prog.info? 257).map (·.size)=some (exC op n nm A N C).length:=yr
theorem wj:(Tryz.prog.info? 186).map (·.size)=some 7:=by kernel_rfl
theorem bK (kd:Int) (nm:ByteArray) (A:Option Addr) (N C:Nat) (lo hi:Int) (A1:Option Addr) (N1 C1:Nat) (A2:Option Addr) (N2 C2:Nat):(Tryz.prog.info? 186).map (·.size)=some (aR kd nm A N C lo hi A1 N1 C1 A2 N2 C2).length:=wj
set_option maxRecDepth 20000 in
theorem rG (F:Es):∀(w:World) (A:Option Addr) (N C:Nat),de w w.heap.size A N F→F.size≤1048576→Calls Tryz.prog 167 #[.slice A N C] w fun e w'=>e=.returned (.int .i64 (F.size:Int))∧Below w.heap.size w w':=by
 obtain ⟨m,hm⟩:∃m,F.size=m:=⟨_,rfl⟩;induction m using Nat.strongRecOn generalizing F with
 | ind m ih=>
  intro w A N C hF hsz;have HF:=aa hF;have HIH:=aa ih;have HM:=aa hm;have hNF:=hF.len;have HN:=aa hNF;have hN2:N≤F.size:=by have:=Es.len_size F;omega
  clear ih hm hNF hF;go_enter Tryz.func167,Tryz.ntmps167;go_wp2_with fail
  go_loopw [3,10] (fun s i wr=>∃(k sv:Nat),k≤N∧i=.int .i64 k∧s=.int .i64 sv∧sv≤1048576∧Hid (sv+(F.drop k).size=F.size+(N - k))∧Hid (Below w.heap.size w wr)) (fun _ i _=>N - (intOf i).toNat)
  case atStart=>exact ⟨0,N,Nat.zero_le _,rfl,rfl,by omega,by show _=_;rw [Es.drop_zero];omega,Below.refl _ _⟩
  case round=>
   obtain ⟨k,sv,hk,rfl,rfl,hs1,hs,hB⟩:=hrel;by_cases hlt:k < N
   ·obtain ⟨b,o,op,n,nm,A',N',C',kids,rest,hA,hb,hr,e1,e2,hkd,_,_,_,_,hks⟩:=(HF.below hB.out).spot hlt;subst hA;have hss:=hs.out;rw [e1,Es.size] at hss;obtain ⟨q,hq⟩:∃q,kids.size=q:=⟨_,rfl⟩;rw [hq] at hss hks;have HE2:=aa e2;have HSS:=aa hss;have HR:=aa hr;have HC:Hid (∀wk,Below wr.heap.size wr wk→Calls Tryz.prog 167 #[.slice A' N' C'] wk fun e w'=>e=.returned (.int .i64 (q:Int))∧Below wk.heap.size wk w'):=fun wk hwk=>(HIH.out kids.size (by rw [hq];have:=HM.out;omega) kids rfl wk A' N' C' ((hkd.more hB.out.size).later hwk) (by omega)).mono (fun e w' h=>⟨by rw [h.1,hq],h.2⟩);have hsum:sv+q≤1048576+0:=by
     have:=Es.len_size rest;have h3:rest.len=N - (k+1):=by rw [←e2,Es.drop_len,HN.out]
     have:=HF.len;omega
    clear hkd hr e1 e2 hss hq hs;go_wp2_with (first | (with_reducible refine wpList_load_mid rfl 257 _ rfl b (o+k*4) rfl (exC op n nm A' N' C') _ HR.out Tryz.underlying257 rfl (aV _ _ _ _ _ _) ?_) | (with_reducible refine ah 257 _ _ rfl ?_))
    refine ak.go ?_;obtain ⟨g2,hg2⟩:∃q,wr.heap.size=q:=⟨_,rfl⟩;rw [hg2];refine an 257 _ _ rfl g2 hg2 (exC op n nm A' N' C') rfl rfl rfl rfl (aV _ _ _ _ _ _) (gY _ _ _ _ _ _) ?_;intro w2 hk hbn;have HK2:=aa hk;have HB2:=aa hbn;clear hk hbn;have c3:=HK2.cell 3;simp only [exC,List.getElem?_cons_succ,List.getElem?_cons_zero] at c3;go_wp2_with (go_at_call 167;refine (HC.out _ HB2.out).mono ?_;rintro e w3 ⟨rfl,hb3⟩;have HB3:=aa (ab HB2.out hb3);clear hb3)
    go_roundw
    case rel=>exact ⟨k+1,sv+q,by omega,by go_num,by go_num,by omega,by have:=HSS.out;show _=_;rw [HE2.out];omega,ab hB.out HB3.out⟩
    case measure=>simp [intOf];omega
   ·go_wp2_with fail
    go_ret;go_light;have e1:=hs.out;rw [Es.drop_end (by have:=HN.out;omega)] at e1;have:sv=F.size:=by simp only [Es.size] at e1;omega
    exact ⟨by rw [this];rfl,hB.out⟩
set_option maxRecDepth 20000 in
theorem rH (F:Ss):∀(w:World) (A:Option Addr) (N C:Nat),cE w w.heap.size A N F→F.size≤1048576→Calls Tryz.prog 110 #[.slice A N C] w fun e w'=>e=.returned (.int .i64 (F.size:Int))∧Below w.heap.size w w':=by
 obtain ⟨m,hm⟩:∃m,F.size=m:=⟨_,rfl⟩;induction m using Nat.strongRecOn generalizing F with
 | ind m ih=>
  intro w A N C hF hsz;have HF:=aa hF;have HIH:=aa ih;have HM:=aa hm;have hNF:=hF.len;have HN:=aa hNF;have hN2:N≤F.size:=by have:=Ss.len_size F;omega
  clear ih hm hNF hF;go_enter Tryz.func110,Tryz.ntmps110;go_wp2_with fail
  go_loopw [3,10] (fun s i wr=>∃(k sv:Nat),k≤N∧i=.int .i64 k∧s=.int .i64 sv∧sv≤1048576∧Hid (sv+(F.drop k).size=F.size+(N - k))∧Hid (Below w.heap.size w wr)) (fun _ i _=>N - (intOf i).toNat)
  case atStart=>exact ⟨0,N,Nat.zero_le _,rfl,rfl,by omega,by show _=_;rw [Ss.drop_zero];omega,Below.refl _ _⟩
  case round=>
   obtain ⟨k,sv,hk,rfl,rfl,hs1,hs,hB⟩:=hrel;by_cases hlt:k < N
   ·obtain ⟨b,o,kd,nm,A',N',C',E,lo,hi,A1,N1,C1,L,A2,N2,C2,M,rest,hA,hb,hr,e1,e2,hst,hks⟩:=(HF.below hB.out).spot hlt;subst hA;have hss:=hs.out;rw [e1,Ss.size] at hss;obtain ⟨q0,hq0⟩:∃q,E.size=q:=⟨_,rfl⟩;obtain ⟨q1,hq1⟩:∃q,L.size=q:=⟨_,rfl⟩;obtain ⟨q2,hq2⟩:∃q,M.size=q:=⟨_,rfl⟩;have HC0:Hid (∀wk,Below wr.heap.size wr wk→Calls Tryz.prog 167 #[.slice A' N' C'] wk fun e w'=>e=.returned (.int .i64 (q0:Int))∧Below wk.heap.size wk w'):=fun wk hwk=>(rG E wk A' N' C' ((hst.e.more hB.out.size).later hwk) (by omega)).mono (fun e w' h=>⟨by rw [h.1,hq0],h.2⟩);have HC1:Hid (∀wk,Below wr.heap.size wr wk→Calls Tryz.prog 110 #[.slice A1 N1 C1] wk fun e w'=>e=.returned (.int .i64 (q1:Int))∧Below wk.heap.size wk w'):=fun wk hwk=>(HIH.out L.size (by have:=HM.out;omega) L rfl wk A1 N1 C1 ((hst.l.more hB.out.size).later hwk) (by omega)).mono (fun e w' h=>⟨by rw [h.1,hq1],h.2⟩);have HC2:Hid (∀wk,Below wr.heap.size wr wk→Calls Tryz.prog 110 #[.slice A2 N2 C2] wk fun e w'=>e=.returned (.int .i64 (q2:Int))∧Below wk.heap.size wk w'):=fun wk hwk=>(HIH.out M.size (by have:=HM.out;omega) M rfl wk A2 N2 C2 ((hst.m.more hB.out.size).later hwk) (by omega)).mono (fun e w' h=>⟨by rw [h.1,hq2],h.2⟩);rw [hq0,hq1,hq2] at hss;have HE2:=aa e2;have HSS:=aa hss;have HR:=aa hr;have hsum:sv+(q0+q1+q2)≤1048576+0:=by
     have:=Ss.len_size rest;have h3:rest.len=N - (k+1):=by rw [←e2,Ss.drop_len,HN.out]
     have:=HF.len;omega
    have w1:IntKind.i64.wrap ((q0:Int)+q1)=(q0:Int)+q1:=cA (by omega);have w2:IntKind.i64.wrap ((q0:Int)+q1+q2)=(q0:Int)+q1+q2:=cA (by omega);have w3:IntKind.i64.wrap ((sv:Int)+(q0+q1+q2))=(sv:Int)+(q0+q1+q2):=cA (by omega);clear hst hr e1 e2 hss hq0 hq1 hq2 hs hks;go_wp2_with (first | (with_reducible refine wpList_load_mid rfl 186 _ rfl b (o+k*7) rfl (aR kd nm A' N' C' lo hi A1 N1 C1 A2 N2 C2) _ HR.out Tryz.underlying186 rfl (bK _ _ _ _ _ _ _ _ _ _ _ _ _) ?_) | (with_reducible refine ah 186 _ _ rfl ?_))
    refine ak.go ?_;obtain ⟨g2,hg2⟩:∃q,wr.heap.size=q:=⟨_,rfl⟩;rw [hg2];refine an 186 _ _ rfl g2 hg2 (aR kd nm A' N' C' lo hi A1 N1 C1 A2 N2 C2) rfl rfl rfl rfl (bK _ _ _ _ _ _ _ _ _ _ _ _ _) (f4 _ _ _ _ _ _ _ _ _ _ _ _ _) ?_;intro w2 hk hbn;have HK2:=aa hk;have HB2:=aa hbn;clear hk hbn;go_wp2_with fail
    have HS:Hid (∀wk,Below w2.heap.size w2 wk→wk.cell? ⟨g2,2,none⟩=some (.slice A' N' C')∧wk.cell? ⟨g2,5,none⟩=some (.slice A1 N1 C1)∧wk.cell? ⟨g2,6,none⟩=some (.slice A2 N2 C2)):=fun wk h=>⟨(HK2.later h).cell 2,(HK2.later h).cell 5,(HK2.later h).cell 6⟩;refine wp_region_held_drew (S:=fun wk=>wk.cell? ⟨g2,2,none⟩=some (.slice A' N' C')∧wk.cell? ⟨g2,5,none⟩=some (.slice A1 N1 C1)∧wk.cell? ⟨g2,6,none⟩=some (.slice A2 N2 C2)) (by kernel_rfl) (HS.out _ (ac w2 _ 1)) (fun hHeld=>?_);have HB3:=aa (ac w2 w2.heap.size 1);refine tk 0 ?_;refine tk 1 ?_;refine tk 4 ?_;refine tk 8 ?_;refine tk 2 ?_;refine tk 5 ?_;refine tk 9 ?_;refine rd1 3 (fun K hK=>?_);go_simp
    (refine (HC0.out _ (ab HB2.out HB3.out)).mono ?_;rintro e w4 ⟨rfl,hbn⟩;have HB4:=aa (ab HB3.out hbn);clear hbn)
    refine so hK (HS.out _ HB4.out) (fun hHeld=>?_);clear hK K;refine rd1 6 (fun K hK=>?_);go_simp
    (refine (HC1.out _ (ab HB2.out HB4.out)).mono ?_;rintro e w5 ⟨rfl,hbn⟩;have HB5:=aa (ab HB4.out hbn);clear hbn)
    refine so hK (HS.out _ HB5.out) (fun hHeld=>?_);clear hK K;refine tk 7 ?_;refine rd1 10 (fun K hK=>?_);go_simp
    (refine (HC2.out _ (ab HB2.out HB5.out)).mono ?_;rintro e w6 ⟨rfl,hbn⟩;have HB6:=aa (ab HB5.out hbn);clear hbn)
    refine so hK (HS.out _ HB6.out) (fun hHeld=>?_);clear hK K;refine tk 11 ?_;refine tk 12 ?_;refine tk 13 ?_;refine wpAnyH_done rfl ?_ _;go_wp2_with fail
    go_roundw
    case rel=>exact ⟨k+1,sv+(q0+q1+q2),by omega,by go_num,by go_num,by omega,by have:=HSS.out;show _=_;rw [HE2.out];omega,ab hB.out (ab HB2.out HB6.out)⟩
    case measure=>simp [intOf];omega
   ·go_wp2_with fail
    go_ret;go_light;have e1:=hs.out;rw [Ss.drop_end (by have:=HN.out;omega)] at e1;have:sv=F.size:=by simp only [Ss.size] at e1;omega
    exact ⟨by rw [this];rfl,hB.out⟩
structure VaT where
 nm:ByteArray
 sz:Int
 lo:Int
 hi:Int
def vaC (v:VaT):List Value:=[.string v.nm,.int .i64 v.sz,.int .i64 v.lo,.int .i64 v.hi]
structure mf (v:VaT):Prop where
 nm:v.nm.size≤1048576
 sz : -9223372036854775808≤v.sz∧v.sz < 9223372036854775808
 lo : -9223372036854775808≤v.lo∧v.lo < 9223372036854775808
 hi : -9223372036854775808≤v.hi∧v.hi < 9223372036854775808
theorem bw (v:VaT):∀x∈vaC v,x.oneCell'=true:=by intro x hx;simp only [vaC,List.mem_cons,List.not_mem_nil,or_false] at hx;rcases hx with rfl | rfl | rfl | rfl <;> rfl
theorem aQ (v:VaT):(Tryz.prog.info? 117).map (·.size)=some (vaC v).length:=(show (Tryz.prog.info? 117).map (·.size)=some 4 by kernel_rfl)
theorem bQ (v:VaT):(Tryz.prog.info? 81).map (·.size)=some (vaC v).length:=(show (Tryz.prog.info? 81).map (·.size)=some 4 by kernel_rfl)
theorem yx (l:List VaT):(l.flatMap vaC).length=l.length*4:=by
 induction l with
 | nil=>rfl
 | cons v l ih=>rw [List.flatMap_cons,List.length_append,ih,List.length_cons];simp [vaC];omega
structure el (w:World) (B:Nat) (A:Option Addr) (N:Nat) (l:List VaT):Prop where
 sl:Sl w B 4 A N (l.flatMap vaC)
 ok:∀v∈l,mf v
section
variable {w w' : World} {B B' N:Nat} {A:Option Addr} {l:List VaT}
theorem el.len (h:el w B A N l):l.length=N:=by have:=h.sl.len;rw [yx] at this;omega
theorem el.below (h:el w B A N l) (hb:Below B w w'):el w' B A N l:=⟨h.sl.below hb,h.ok⟩
theorem el.more (h:el w B A N l) (hB:B≤B'):el w B' A N l:=⟨h.sl.more hB,h.ok⟩
theorem el.later (h:el w w.heap.size A N l) (hb:Below w.heap.size w w'):el w' w'.heap.size A N l:=⟨h.sl.later hb,h.ok⟩
theorem el.nil (w:World) (B:Nat):el w B none 0 []:=⟨Sl.nil,fun _ h=>by simp at h⟩
theorem el.spot (h:el w B A N l) {k:Nat} (hk:k < N):∃(b o:Nat) (v:VaT),A=some ⟨b,o,none⟩∧b < B∧w.rangeAt b (o+k*4) (vaC v)∧l[k]?=some v∧mf v:=by obtain ⟨b,o,v,e,hb,hv,hc⟩:=Sl.cellO (f:=vaC) (m:=4) (fun _=>rfl) (by omega) h.sl hk h.len;exact ⟨b,o,v,e,hb,fun j u hu=>hc j u hu,hv,h.ok v (List.mem_of_getElem? hv)⟩
end
structure Sln where
 A:Option Addr
 N:Nat
 C:Nat
def Sln.v (s:Sln):Value:=.slice s.A s.N s.C
structure PgT where
 nm:ByteArray
 seats:Int
 sk:Sln
 skL:List Int
 vr:Sln
 vrL:List VaT
 st:Sln
 stL:Ss
 tu:Sln
 tuL:Ss
 pa:Sln
 paL:List VaT
 pl:Sln
 plL:Ss
 si:ByteArray
 qu:Sln
 quL:Ss
 py:Sln
 pyL:Ss
def pgC (p:PgT):List Value:=[.string p.nm,.int .i64 p.seats,.slice p.sk.A p.sk.N p.sk.C,.slice p.vr.A p.vr.N p.vr.C,.slice p.st.A p.st.N p.st.C,.slice p.tu.A p.tu.N p.tu.C,.slice p.pa.A p.pa.N p.pa.C,.slice p.pl.A p.pl.N p.pl.C,.string p.si,.slice p.qu.A p.qu.N p.qu.C,.slice p.py.A p.py.N p.py.C]
theorem yy (p:PgT):∀x∈pgC p,x.oneCell'=true:=by intro x hx;simp only [pgC,List.mem_cons,List.not_mem_nil,or_false] at hx;rcases hx with rfl | rfl | rfl | rfl | rfl | rfl | rfl | rfl | rfl | rfl | rfl <;> rfl
def PgT.size (p:PgT):Nat:=p.vrL.length+p.paL.length+(p.stL.size+p.tuL.size+p.plL.size+p.quL.size+p.pyL.size)
structure cI (w:World) (B:Nat) (p:PgT):Prop where
 sk:Sl w B 1 p.sk.A p.sk.N (p.skL.map (.int .i64))
 vr:el w B p.vr.A p.vr.N p.vrL
 st:cE w B p.st.A p.st.N p.stL
 tu:cE w B p.tu.A p.tu.N p.tuL
 pa:el w B p.pa.A p.pa.N p.paL
 pl:cE w B p.pl.A p.pl.N p.plL
 qu:cE w B p.qu.A p.qu.N p.quL
 py:cE w B p.py.A p.py.N p.pyL
 cap:p.sk.N≤p.sk.C∧p.vr.N≤p.vr.C∧p.st.N≤p.st.C∧p.tu.N≤p.tu.C∧p.pa.N≤p.pa.C∧p.pl.N≤p.pl.C∧p.qu.N≤p.qu.C∧p.py.N≤p.py.C
 few:p.size≤1048576
 nm:p.nm.size≤1048576
 si:p.si.size≤1048576
 seats : -9223372036854775808≤p.seats∧p.seats < 9223372036854775808
 skn:p.sk.N≤1048576
 skr:∀z∈p.skL,-9223372036854775808≤z∧z < 9223372036854775808
section
variable {w w' : World} {B B' : Nat} {p:PgT}
theorem cI.below (h:cI w B p) (hb:Below B w w'):cI w' B p:=
 ⟨h.sk.below hb,h.vr.below hb,h.st.below hb,h.tu.below hb,h.pa.below hb,h.pl.below hb,h.qu.below hb,h.py.below hb,h.cap,h.few,h.nm,h.si,h.seats,h.skn,h.skr⟩
theorem cI.more (h:cI w B p) (hB:B≤B'):cI w B' p:=
 ⟨h.sk.more hB,h.vr.more hB,h.st.more hB,h.tu.more hB,h.pa.more hB,h.pl.more hB,h.qu.more hB,h.py.more hB,h.cap,h.few,h.nm,h.si,h.seats,h.skn,h.skr⟩
theorem cI.later (h:cI w w.heap.size p) (hb:Below w.heap.size w w'):cI w' w'.heap.size p:=(h.below hb).more hb.size
theorem cI.lens (h:cI w B p):p.vrL.length=p.vr.N∧p.paL.length=p.pa.N:=⟨h.vr.len,h.pa.len⟩
end
theorem db (p:PgT):(Tryz.prog.info? 66).map (·.size)=some (pgC p).length:=(show (Tryz.prog.info? 66).map (·.size)=some 11 by kernel_rfl)
theorem ct (p:PgT):(Tryz.prog.info? 26).map (·.size)=some (pgC p).length:=(show (Tryz.prog.info? 26).map (·.size)=some 11 by kernel_rfl)
theorem ft {w:World} {A:Option Addr} {N C q:Nat} {F:Ss} (h:cE w w.heap.size A N F) (hs:F.size≤1048576) (hq:F.size=q) (n:Nat):Calls Tryz.prog 64 #[.slice A N C] (w.drewN n) fun e w'=>e=.returned (.int .i64 (q:Int))∧∃m,w'=w.drewN m:=
 Calls.quiet_of ((nu F (w.drewN n) A N C (h.drewN n) hs).mono (fun e w' h=>⟨by rw [h.1,hq],h.2⟩))
set_option maxRecDepth 20000 in
theorem nx (w:World) (p:PgT) (h:cI w w.heap.size p):Calls Tryz.prog 48 #[.agg (pgC p).toArray] w fun e w'=>e=.returned (.int .i64 (p.size:Int))∧Below w.heap.size w w':=by
 obtain ⟨w1,hw1⟩:∃w1,w.alloc (.cells (pgC p).toArray 26)=w1:=⟨_,rfl⟩;have hk:Bk w1 w.heap.size 26 (pgC p):=hw1▸Bk.new' w _ _ rfl;have hb:Below w.heap.size w w1:=hw1▸ai w _;have h1:=h.later hb;have HW:=aa hw1;have HB:=aa hb;have hfew:=h.few;unfold PgT.size at hfew;obtain ⟨q0,e0⟩:∃q,p.stL.size=q:=⟨_,rfl⟩;obtain ⟨q1,e1⟩:∃q,p.tuL.size=q:=⟨_,rfl⟩;obtain ⟨q2,e2⟩:∃q,p.plL.size=q:=⟨_,rfl⟩;obtain ⟨q3,e3⟩:∃q,p.quL.size=q:=⟨_,rfl⟩;obtain ⟨q4,e4⟩:∃q,p.pyL.size=q:=⟨_,rfl⟩;obtain ⟨v0,e5⟩:∃q,p.vr.N=q:=⟨_,rfl⟩;obtain ⟨v1,e6⟩:∃q,p.pa.N=q:=⟨_,rfl⟩;have HQ:Hid (p.size=v0+v1+(q0+q1+q2+q3+q4)):=by show p.size=_;unfold PgT.size;rw [h.lens.1,h.lens.2,e0,e1,e2,e3,e4,e5,e6]
 rw [h.lens.1,h.lens.2,e0,e1,e2,e3,e4,e5,e6] at hfew;have H0:=aa (fun n=>ft (C:=p.st.C) h1.st (by omega) e0 n);have H1:=aa (fun n=>ft (C:=p.tu.C) h1.tu (by omega) e1 n);have H2:=aa (fun n=>ft (C:=p.pl.C) h1.pl (by omega) e2 n);have H3:=aa (fun n=>ft (C:=p.qu.C) h1.qu (by omega) e3 n);have H4:=aa (fun n=>ft (C:=p.py.C) h1.py (by omega) e4 n);have c3:=hk.cell 3;have c4:=hk.cell 4;have c5:=hk.cell 5;have c6:=hk.cell 6;have c7:=hk.cell 7;have c9:=hk.cell 9;have c10:=hk.cell 10;simp only [pgC,List.getElem?_cons_succ,List.getElem?_cons_zero,e5,e6] at c3 c4 c5 c6 c7 c9 c10;have x1:IntKind.i64.wrap ((v0:Int)+v1)=(v0:Int)+v1:=cA (by omega);have x2:IntKind.i64.wrap ((v0:Int)+v1+q0)=(v0:Int)+v1+q0:=cA (by omega);have x3:IntKind.i64.wrap ((v0:Int)+v1+q0+q1)=(v0:Int)+v1+q0+q1:=cA (by omega);have x4:IntKind.i64.wrap ((v0:Int)+v1+q0+q1+q2)=(v0:Int)+v1+q0+q1+q2:=cA (by omega);have x5:IntKind.i64.wrap ((v0:Int)+v1+q0+q1+q2+q3)=(v0:Int)+v1+q0+q1+q2+q3:=cA (by omega);have x6:IntKind.i64.wrap ((v0:Int)+v1+q0+q1+q2+q3+q4)=(v0:Int)+v1+q0+q1+q2+q3+q4:=cA (by omega);clear e0 e1 e2 e3 e4 e5 e6 hk hw1 h1 h hb hfew;go_enter Tryz.func48,Tryz.ntmps48;go_upto_region 1 with fail
 rw [HW.out];go_quiet (first | (go_at_call_of 64 p.st.A;exact H0.out _) | (go_at_call_of 64 p.tu.A;exact H1.out _) | (go_at_call_of 64 p.pl.A;exact H2.out _) | (go_at_call_of 64 p.qu.A;exact H3.out _) | (go_at_call_of 64 p.py.A;exact H4.out _));go_wp2_with fail
 go_ret;refine ⟨?_,ab HB.out (ac w1 _ _)⟩;rw [HQ.out];show Ending.returned (Value.int _ _)=_;congr 2
 push_cast
 omega
open Go.Maps
section
variable {P:Program} {w:World} {T K E:TypeId} {b n:Nat} {D:DataW Unit} {s:ByteArray}
def f8 (s:ByteArray):Lit:=.string s.data.toList
def atB (D:DataW Unit) (k:Lit):Bool:=match D.atKey k (.lit (.bool false)) with | .lit (.bool x)=>x | _=>false
def atI (D:DataW Unit) (k:Lit):Int:=match D.atKey k (.lit (.int .i64 0)) with | .lit (.int _ x)=>x | _=>0
theorem jA (he:P.underlying E=some .bool) {v:Value} {z:DataW Unit × List MemPlace} (h:plainElem P E v=some z):∃x,v=.bool x∧z=(.lit (.bool x),[]):=by unfold plainElem at h;rw [he] at h;cases v <;> simp at h;exact ⟨_,rfl,h.symm⟩
theorem vv (hT:P.underlying T=some (.map K E)) (hK:P.underlying K=some .string) (hE:P.underlying E=some .bool) (hz:(zeroValue E).run P w=.ok (.bool false) w) (h:w.ownsMap P K (plainElem P E) b n D) (hs:s.size≤1048576):(Instr.lookup T (.map (some b)) (.string s) false).run P w=.ok (.bool (atB D (f8 s))) w:=by obtain ⟨v,ps,hrun,hv⟩:=h.lookup (string_keyed hK) hT hz (plainElem_bool hE false) (WideMaps.keyOf_string_mk hK (s:=s) (by unfold maxLen;omega));obtain ⟨x,rfl,hx⟩:=jA hE hv;rw [hrun];have h1:D.atKey (f8 s) (.lit (.bool false))=.lit (.bool x):=congrArg Prod.fst hx;unfold atB;rw [h1]
theorem gT (hT:P.underlying T=some (.map K E)) (hK:P.underlying K=some .string) (hE:P.underlying E=some (.int .i64)) (hz:(zeroValue E).run P w=.ok (.int .i64 0) w) (h:w.ownsMap P K (plainElem P E) b n D) (hs:s.size≤1048576):(Instr.lookup T (.map (some b)) (.string s) false).run P w=.ok (.int .i64 (atI D (f8 s))) w:=by obtain ⟨c,hrun,hat,_⟩:=h.lookup_int (string_keyed hK) hT hE hz (WideMaps.keyOf_string_mk hK (s:=s) (by unfold maxLen;omega));rw [hrun];unfold atI f8;rw [hat]
theorem vw (hT:P.underlying T=some (.map K E)) (hK:P.underlying K=some .string) (hE:P.underlying E=some (.int .i64)) (hz:(zeroValue E).run P w=.ok (.int .i64 0) w) (h:w.ownsMap P K (plainElem P E) b n D) (hs:s.size≤1048576):(Instr.lookup T (.map (some b)) (.string s) true).run P w=.ok (.tuple #[.int .i64 (atI D (f8 s)),.bool (Maps.has D (f8 s))]) w:=by obtain ⟨v,ps,hrun,hv⟩:=h.look_ok (string_keyed hK) hT hz (plainElem_int hE (by decide)) (WideMaps.keyOf_string_mk hK (s:=s) (by unfold maxLen;omega));obtain ⟨x,rfl,hx,_⟩:=plainElem_int_inv hE hv;rw [hrun];have h1:D.atKey (f8 s) (.lit (.int .i64 0))=.lit (.int .i64 x):=congrArg Prod.fst hx;unfold atI;rw [h1];rfl
end
def fp:List Int:=[1,2,1,0,0,0,1,0,2,1]
def dG:List Int:=[0,0,1,1,1,2,2,2,2,2,2,2,2,2,2,2,2,2]
def lP:List (List UInt8):=[[110],[119,110],[119,119],[119,119,119],[119,119,119],[119,119,119],[119,119,119],[119,119,119],[119,119,119],[119,119,119],[119,119,119],[119,119,119],[119,119,119],[119,119,119],[119,119],[119,119,119],[119,119,119],[119,110,110],[119,119,110],[112],[112,119],[112,119]]
structure cX (w:World):Prop where
 sp:∀c:Nat,c < 256→w.cell? ⟨1,c,none⟩=some (.int .u8 (if Lib.isSp (UInt8.ofNat c) then 1 else 0))
 sP:∀(k:Nat) (x:Int),fp[k]?=some x→w.cell? ⟨2,k,none⟩=some (.int .i64 x)
 eP:∀(k:Nat) (x:Int),dG[k]?=some x→w.cell? ⟨5,k,none⟩=some (.int .i64 x)
 op:∀(k:Nat) (x:List UInt8),lP[k]?=some x→w.cell? ⟨0,k*2+1,none⟩=some (.string ⟨x.toArray⟩)
theorem cX.later {w w' : World} (h:cX w) (hb:Below w.heap.size w w'):cX w':=
 ⟨fun c hc=>(hb.cell (World.block_lt_of_cell? _ _ (h.sp c hc))).trans (h.sp c hc),fun k x hk=>(hb.cell (World.block_lt_of_cell? _ _ (h.sP k x hk))).trans (h.sP k x hk),fun k x hk=>(hb.cell (World.block_lt_of_cell? _ _ (h.eP k x hk))).trans (h.eP k x hk),fun k x hk=>(hb.cell (World.block_lt_of_cell? _ _ (h.op k x hk))).trans (h.op k x hk)⟩
theorem cX.below {w w' : World} {B:Nat} (h:cX w) (h6:6≤B) (hb:Below B w w'):cX w':=
 ⟨fun c hc=>(hb.cell (show 1 < B by omega)).trans (h.sp c hc),fun k x hk=>(hb.cell (show 2 < B by omega)).trans (h.sP k x hk),fun k x hk=>(hb.cell (show 5 < B by omega)).trans (h.eP k x hk),fun k x hk=>(hb.cell (show 0 < B by omega)).trans (h.op k x hk)⟩
theorem cX.six {w:World} (h:cX w):6≤w.heap.size:=World.block_lt_of_cell? _ _ (h.eP 0 0 rfl)
def Tryz.lays157_ren:Go.Shelf.Ren:=⟨fun | 157=>238 | 229=>250 | 199=>251 | 261=>261 | 311=>265 | 312=>266 | n=>n,fun | 9=>9 | 31=>126 | 3=>3 | 5=>5 | 4=>4 | 119=>307 | 0=>0 | 40=>309 | 152=>316 | 21=>21 | 154=>318 | 51=>230 | 141=>320 | 196=>325 | 193=>322 | 198=>328 | 49=>326 | 194=>323 | 201=>331 | 226=>335 | 46=>162 | 227=>336 | n=>n,fun | 0=>1 | 6=>4 | n=>n⟩
theorem Tryz.lays157:Go.Proofs.Lays.n157 Tryz.prog Tryz.lays157_ren:={ mixed:=(by kernel_rfl),f157:=Tryz.func238.trans (congrArg some (by kernel_rfl)),f199:=Tryz.func251.trans (congrArg some (by kernel_rfl)),f229:=Tryz.func250.trans (congrArg some (by kernel_rfl)),f261:=Tryz.func261.trans (congrArg some (by kernel_rfl)),f311:=Tryz.func265.trans (congrArg some (by kernel_rfl)),f312:=Tryz.func266.trans (congrArg some (by kernel_rfl)),t0:=Tryz.underlying0,a0:=Tryz.isAgg0,z0:=Tryz.sizeOf0,v0:=Tryz.zeroValue0,t3:=Tryz.underlying3,a3:=Tryz.isAgg3,z3:=Tryz.sizeOf3,v3:=Tryz.zeroValue3,t4:=Tryz.underlying4,a4:=Tryz.isAgg4,z4:=Tryz.sizeOf4,v4:=Tryz.zeroValue4,t5:=Tryz.underlying5,a5:=Tryz.isAgg5,z5:=Tryz.sizeOf5,v5:=Tryz.zeroValue5,t9:=Tryz.underlying9,a9:=Tryz.isAgg9,z9:=Tryz.sizeOf9,v9:=Tryz.zeroValue9,t21:=Tryz.underlying21,a21:=Tryz.isAgg21,z21:=Tryz.sizeOf21,v21:=Tryz.zeroValue21,t31:=Tryz.underlying126,a31:=Tryz.isAgg126,z31:=Tryz.sizeOf126,v31:=Tryz.zeroValue126,t40:=Tryz.underlying309,a40:=Tryz.isAgg309,z40:=Tryz.sizeOf309,v40:=Tryz.zeroValue309,t46:=Tryz.underlying162,a46:=Tryz.isAgg162,z46:=Tryz.sizeOf162,v46:=Tryz.zeroValue162,t49:=Tryz.underlying326,a49:=Tryz.isAgg326,z49:=Tryz.sizeOf326,v49:=Tryz.zeroValue326,t51:=Tryz.underlying230,a51:=Tryz.isAgg230,z51:=Tryz.sizeOf230,v51:=Tryz.zeroValue230,t119:=Tryz.underlying307,a119:=Tryz.isAgg307,z119:=Tryz.sizeOf307,t141:=Tryz.underlying320,a141:=Tryz.isAgg320,z141:=Tryz.sizeOf320,v141:=Tryz.zeroValue320,t152:=Tryz.underlying316,a152:=Tryz.isAgg316,z152:=Tryz.sizeOf316,v152:=Tryz.zeroValue316,t154:=Tryz.underlying318,a154:=Tryz.isAgg318,z154:=Tryz.sizeOf318,v154:=Tryz.zeroValue318,t193:=Tryz.underlying322,a193:=Tryz.isAgg322,z193:=Tryz.sizeOf322,v193:=Tryz.zeroValue322,t194:=Tryz.underlying323,a194:=Tryz.isAgg323,z194:=Tryz.sizeOf323,v194:=Tryz.zeroValue323,t196:=Tryz.underlying325,a196:=Tryz.isAgg325,z196:=Tryz.sizeOf325,v196:=Tryz.zeroValue325,t198:=Tryz.underlying328,a198:=Tryz.isAgg328,z198:=Tryz.sizeOf328,v198:=Tryz.zeroValue328,t201:=Tryz.underlying331,a201:=Tryz.isAgg331,z201:=Tryz.sizeOf331,v201:=Tryz.zeroValue331,t226:=Tryz.underlying335,a226:=Tryz.isAgg335,z226:=Tryz.sizeOf335,v226:=Tryz.zeroValue335,t227:=Tryz.underlying336,a227:=Tryz.isAgg336,z227:=Tryz.sizeOf336,v227:=Tryz.zeroValue336,g0:=(by kernel_rfl),g6:=(by kernel_rfl) }
theorem og:∀(l cur:List UInt8),(Lib.fieldsGo cur l).length≤l.length+1
 | [],cur=>by unfold Lib.fieldsGo;split <;> simp
 | b :: l,cur=>by
  unfold Lib.fieldsGo;have h1:=og l [];have h2:=og l (cur ++ [b]);rw [List.length_cons];split
  ·split
   ·omega
   ·rw [List.length_cons];omega
  ·omega
theorem j4:∀(l cur f:List UInt8),f∈Lib.fieldsGo cur l→f.length≤cur.length+l.length
 | [],cur,f,h=>by
  unfold Lib.fieldsGo at h;split at h
  ·simp at h
  ·simp at h;subst h;omega
 | b :: l,cur,f,h=>by
  unfold Lib.fieldsGo at h;rw [List.length_cons];split at h
  ·split at h
   ·have:=j4 l [] f h;simp at this;omega
   ·rcases List.mem_cons.1 h with h | h
    ·subst h;omega
    ·have:=j4 l [] f h;simp at this;omega
  ·have:=j4 l (cur ++ [b]) f h;rw [List.length_append] at this;simp at this;omega
def oh (e:Ending) (w' : World):Prop:=∃(q n:Nat) (ss:List ByteArray),e=.returned (.slice (some ⟨q,0,none⟩) n n)∧n≤1001∧Sl w' w'.heap.size 1 (some ⟨q,0,none⟩) n (ss.map .string)∧∀x∈ss,x.size≤1000
theorem kU (s:ByteArray) (w:World) (hs:s.size≤1000) (ha:(s.data.toList.all fun b=>decide (b.toNat < 128))=true) (hL:cX w):Calls Tryz.prog 238 #[.string s] w fun e w'=>oh e w'∧Below w.heap.size w w':=by
 have hi:(Tryz.prog.info? (Tryz.lays157_ren.t 9)).map (fun i=>(i.zero,i.size,i.bytes))=some (some (.string ByteArray.empty),1,16):=by kernel_rfl
 have hc:=Any.strings_Fields_core Tryz.lays157 hi s w (by omega) (fun j b hb=>by
  have:=List.all_eq_true.1 ha b (List.mem_of_getElem? hb);simpa using this) hL.sp
 have hlen:s.data.toList.length=s.size:=by rw [Array.length_toList];rfl
 have h1:(Lib.fields s.data.toList).length≤1001:=by have:=og s.data.toList [];unfold Lib.fields;omega
 refine (show Calls Tryz.prog 238 #[.string s] w _ from hc).mono ?_;rintro e w' ⟨rfl,rfl⟩;refine ⟨⟨w.heap.size,_,(Lib.fields s.data.toList).map fun l=>(⟨l.toArray⟩:ByteArray),rfl,h1,?_,?_⟩,ai w _⟩
 ·have hk:=Bk.new w (Tryz.lays157_ren.t 9) ((Lib.fields s.data.toList).map fun l=>Value.string ⟨l.toArray⟩).toArray;refine hk.sl (by simp) (by omega) (fun j u hu=>?_);simpa [List.map_map,Function.comp_def] using hu
 ·intro x hx;obtain ⟨l,hl,rfl⟩:=List.mem_map.1 hx;have:=j4 _ _ l hl;show l.toArray.size≤1000;simp at this ⊢;have e:s.data.size=s.size:=rfl;omega
theorem tC (w:World) (hL:cX w):Calls Tryz.prog 213 #[] w fun e w'=>oh e w'∧Below w.heap.size w w':=by
 have HL:=aa hL;clear hL;go_enter Tryz.func213,Tryz.ntmps213;go_wp2_with (go_at_call 238;refine (kU _ w (by decide) (by decide) HL.out).mono ?_;rintro e w' ⟨⟨q,n,ss,rfl,h1,h2,h3⟩,hb⟩;have HH:=aa (And.intro h1 (And.intro h2 (And.intro h3 hb)));clear h1 h2 h3 hb)
 go_ret;exact ⟨⟨q,n,ss,rfl,HH.out.1,HH.out.2.1,HH.out.2.2.1⟩,HH.out.2.2.2⟩
theorem tD (w:World) (hL:cX w):Calls Tryz.prog 214 #[] w fun e w'=>oh e w'∧Below w.heap.size w w':=by
 have HL:=aa hL;clear hL;go_enter Tryz.func214,Tryz.ntmps214;go_wp2_with (go_at_call 238;refine (kU _ w (by decide) (by decide) HL.out).mono ?_;rintro e w' ⟨⟨q,n,ss,rfl,h1,h2,h3⟩,hb⟩;have HH:=aa (And.intro h1 (And.intro h2 (And.intro h3 hb)));clear h1 h2 h3 hb)
 go_ret;exact ⟨⟨q,n,ss,rfl,HH.out.1,HH.out.2.1,HH.out.2.2.1⟩,HH.out.2.2.2⟩
def zP (base:Nat) (e:Ending) (w' : World):Prop:=∃(b n:Nat) (D:DataW Unit),e=.returned (.map (some b))∧base≤b∧w'.ownsMap Tryz.prog 9 (plainElem Tryz.prog 4) b n D
theorem oo (w:World) (n:Nat):(Instr.makeMap 241 (some (.int .i64 (n:Int)))).run Tryz.prog w=.ok (.map (some w.heap.size)) (w.alloc (.map #[] 0)):=by kernel_rfl
set_option maxRecDepth 20000 in
theorem sE (w:World) (A:Option Addr) (n c:Nat) (ss:List ByteArray) (hn:n≤1001) (hs:Sl w w.heap.size 1 A n (ss.map .string)) (hz:∀x∈ss,x.size≤1000):Calls Tryz.prog 212 #[.slice A n c] w fun e w'=>zP w.heap.size e w'∧Below w.heap.size w w':=by
 have HS:=aa hs;have HZ:=aa hz;have hmm:=oo w n;obtain ⟨w1,hw1⟩:∃w1,w.alloc (.map #[] 0)=w1:=⟨_,rfl⟩;obtain ⟨b,hb⟩:∃b,w.heap.size=b:=⟨_,rfl⟩;have hown:w1.ownsMap (H:=Unit) Tryz.prog 9 (plainElem Tryz.prog 4) b 0 (.map []):=hw1▸hb▸World.ownsMap_made w _ _ _;have hbl:Below w.heap.size w w1:=hw1▸ai w _;rw [hw1,hb] at hmm;have HO:=aa hown;have HB:=aa hbl;have HG:=aa hb;clear hs hz hw1 hb hown hbl;go_enter Tryz.func212,Tryz.ntmps212;go_wp2_with fail
 clear hmm;go_loopw [5,11] (fun _ i wr=>∃(k:Nat) (D:DataW Unit),k≤n∧i=.int .i64 k∧Hid (wr.ownsMap Tryz.prog 9 (plainElem Tryz.prog 4) b k D)∧Hid (Below w.heap.size w wr)) (fun _ i _=>n - (intOf i).toNat)
 case atStart=>exact ⟨0,_,Nat.zero_le _,rfl,HO.out,HB.out⟩
 case round=>
  obtain ⟨k,D,hk,rfl,hO,hB⟩:=hrel;by_cases hlt:k < n
  ·obtain ⟨p,x,hA,hpb,hx,hc⟩:=(HS.below hB.out).atg hlt;subst hA;have hxs:=HZ.out x (List.mem_of_getElem? hx);have HX:=aa (WideMaps.keyOf_string_mk (P:=Tryz.prog) Tryz.underlying9 (s:=x) (by unfold maxLen;omega));clear hx hxs hpb;go_wp2_with (at_mapUpdate;refine wpList_mapUpdate_own _ rfl _ _ _ 241 rfl 9 4 (string_keyed Tryz.underlying9) Tryz.underlying241 _ b k D rfl hO.out (by unfold maxLen;omega) _ _ _ rfl rfl HX.out _ [] (plainElem_bool Tryz.underlying4 true) ?_;intro w2 hown2 hg2;have HO2:=aa hown2;have HB2:=aa (ag hB.out hg2 hB.out.size (by rw [HG.out];exact Nat.le_refl _));clear hown2 hg2)
   go_roundw
   case rel=>exact ⟨k+1,_,by omega,by go_num,HO2,HB2⟩
   case measure=>simp [intOf];omega
  ·go_wp2_with fail
   go_ret;go_light;exact ⟨⟨b,k,D,rfl,by rw [HG.out];exact Nat.le_refl _,hO.out⟩,hB.out⟩
theorem av {w w' : World} (h:Below w.heap.size w w'):w.grownBy w' none:=⟨h.os,h.tape,h.output,h.size,fun k hk _=>h.block k hk⟩
def AE (base:Nat) (e:Ending) (w' : World):Prop:=∃(b n:Nat) (D:DataW Unit) (v:Value),e=.returned (.agg #[.map (some b),v])∧w'.ownsMap Tryz.prog 9 (plainElem Tryz.prog 4) b n D∧v.oneCell'=true
theorem vE (a b:Value) (ha:∃x,a=.map x) (hb:∃x,b=.map x) (w:World):(Instr.build 243 #[(0,a),(1,b)]).run Tryz.prog w=.ok (.agg [a,b].toArray) w:=by obtain ⟨x,rfl⟩:=ha;obtain ⟨y,rfl⟩:=hb;kernel_rfl
theorem sF (a b:Value):(Tryz.prog.info? 243).map (·.size)=some [a,b].length:=(show (Tryz.prog.info? 243).map (·.size)=some 2 by kernel_rfl)
set_option maxRecDepth 20000 in
theorem re (w:World) (hL:cX w):Calls Tryz.prog 164 #[] w fun e w'=>AE w.heap.size e w'∧Below w.heap.size w w':=by
 obtain ⟨g,hg⟩:∃g,w.heap.size=g:=⟨_,rfl⟩;obtain ⟨w1,hw1⟩:∃w1,w.alloc (.cells #[.map none,.map none] 243)=w1:=⟨_,rfl⟩;have hk:Bk w1 g 243 [.map none,.map none]:=hw1▸Bk.at_ w _ _ hg rfl;have hb:Below w.heap.size w w1:=hw1▸ai w _;have HK:=aa hk;have HB:=aa hb;have HG:=aa hg;have HL:=aa (hL.later hb);have HW:=aa hw1;clear hk hb hw1 hL hg;go_enter Tryz.func164,Tryz.ntmps164;go_upto_region 1 with fail
 rw [HW.out,HG.out];go_wp2_with (go_at_call 213;refine (tC w1 HL.out).mono ?_;rintro e w2 ⟨⟨q2,n2,ss2,rfl,h1,h2,h3⟩,hbn⟩;have HS2:=aa (And.intro h1 (And.intro h2 h3));have HB2:=aa hbn;clear h1 h2 h3 hbn)
 refine (sE w2 _ n2 n2 ss2 HS2.out.1 HS2.out.2.1 HS2.out.2.2).mono ?_;rintro e w3 ⟨⟨b3,n3,D3,rfl,h1,h2⟩,hbn⟩;have HM3:=aa h2;have HB3:=aa (ab HB2.out hbn);have H3G:=aa h1;clear h1 h2 hbn;go_wp2_with (go_at_call 214;refine (tD w3 (HL.later HB3.out)).mono ?_;rintro e w4 ⟨⟨q4,n4,ss4,rfl,h1,h2,h3⟩,hbn⟩;have HS4:=aa (And.intro h1 (And.intro h2 h3));have HB4:=aa (ab HB3.out hbn);have HM4:=aa (HM3.kept (av hbn) (by simp));clear h1 h2 h3 hbn)
 refine (sE w4 _ n4 n4 ss4 HS4.out.1 HS4.out.2.1 HS4.out.2.2).mono ?_;rintro e w5 ⟨⟨b5,n5,D5,rfl,h1,h2⟩,hbn⟩;have HB5:=aa (ab HB4.out hbn);have HM5:=aa (HM4.kept (av hbn) (by simp));clear h1 h2 hbn;go_wp2_with (first | ((with_reducible refine aS rfl 243 _ rfl #[(0,.map (some b3)),(1,.map (some b5))] ?_ _ (vE _ _ ⟨_,rfl⟩ ⟨_,rfl⟩ _) ?_);focus (simp [Act.eval,Act.put];done)) | (with_reducible refine ah 243 _ _ rfl ?_))
 refine ak.go ?_;refine ae rfl 243 _ _ rfl g 0 (.agg [.map (some b3),.map (some b5)].toArray) [.map (some b3),.map (some b5)] rfl rfl rfl 243 [] [.map none,.map none] [] (by simpa using HK.later HB5.out) rfl rfl (sF _ _) (by intro v hv;simp at hv;rcases hv with rfl | rfl <;> rfl) ?_;intro w6 hp;have HK6:Hid (Bk w6 g 243 [.map (some b3),.map (some b5)]):=by show Bk _ _ _ _;have:=hp.bk;simpa using this
 have hne:g≠b3:=by have:=HK.lt;have:=HB2.size;have:=H3G.out;omega
 have HM6:=aa (HM5.kept hp.only (by simpa using Ne.symm hne));have HB6:=aa ((ab HB.out HB5.out).grown hp.only (ab HB.out HB5.out).size (fun q hq=>by injection hq with hq;rw [HG.out];omega));clear hp hne;go_wp2_with fail
 refine bodyPost_ret (bH rfl _ _ g 243 _ _ rfl HK6.out Tryz.underlying243 rfl (sF _ _)) rfl ?_;exact ⟨⟨b3,n3,D3,_,rfl,HM6.out,rfl⟩,HB6.out⟩
def vF (c:Int):Bool:=(decide (97≤c) && decide (c≤122)) || (decide (65≤c) && decide (c≤90))
def yb (c:Int):Bool:=decide (48≤c) && decide (c≤57)
set_option maxHeartbeats 2000000 in
theorem lS (c:Int) (w:World):Calls Tryz.prog 215 #[.int .u8 c] w fun e w'=>e=.returned (.bool (vF c))∧w=w':=by unfold vF;go_enter Tryz.func215,Tryz.ntmps215;by_cases h1:97≤c <;> by_cases h2:c≤122 <;> by_cases h3:65≤c <;> by_cases h4:c≤90 <;> (go_wp2_with fail;go_ret;exact ⟨by simp [h1,h2,h3,h4],rfl⟩)
theorem tE (c:Int) (w:World):Calls Tryz.prog 239 #[.int .u8 c] w fun e w'=>e=.returned (.bool (yb c))∧w=w':=by unfold yb;go_enter Tryz.func239,Tryz.ntmps239;by_cases h1:48≤c <;> by_cases h2:c≤57 <;> (go_wp2_with fail;go_ret;exact ⟨by simp [h1,h2],rfl⟩)
def zQ (c:Int):Bool:=vF c || yb c || decide (c=95)
set_option maxRecDepth 20000 in
theorem tF (c:Int) (w:World):Calls Tryz.prog 217 #[.int .u8 c] w fun e w'=>e=.returned (.bool (zQ c))∧w=w':=by
 obtain ⟨x,hx⟩:∃x,vF c=x:=⟨_,rfl⟩;obtain ⟨y,hy⟩:∃x,yb c=x:=⟨_,rfl⟩;have hl:=lS c w;have hd:=tE c w;unfold zQ;rw [hx] at hl ⊢;rw [hy] at hd ⊢;have HL:=aa hl;have HD:=aa hd;clear hx hy hl hd;go_enter Tryz.func217,Tryz.ntmps217;go_wp2_with fail
 refine (HL.out).mono ?_;rintro e w' ⟨rfl,rfl⟩;cases x
 ·go_wp2_with fail
  refine (HD.out).mono ?_;rintro e w' ⟨rfl,rfl⟩;cases y
  ·by_cases h1:c=95
   ·go_wp2_with fail
    go_ret;exact ⟨by simp [h1],rfl⟩
   ·go_wp2_with fail
    go_ret;exact ⟨by simp [h1],rfl⟩
  ·go_wp2_with fail
   go_ret;exact ⟨by simp,rfl⟩
 ·go_wp2_with fail
  go_ret;exact ⟨by simp,rfl⟩
def zR (e:Ending):Prop:=∃t:ByteArray,e=.returned (.string t)
set_option maxRecDepth 20000 in
theorem vG (s:ByteArray) (hs:s.size≤4611686018427387904) (w:World):Calls Tryz.prog 216 #[.string s,.func (.func 217) #[] #[]] w fun e w'=>zR e∧w=w':=by
 go_enter Tryz.func216,Tryz.ntmps216;go_wp2_with fail
 go_loop [5] (fun i=>∃k:Nat,k≤s.size∧i=.int .i64 k) (fun i=>s.size - (intOf i).toNat);case atStart=>exact ⟨0,Nat.zero_le _,rfl⟩
 case round=>
  obtain ⟨k,hk,rfl⟩:=hrel;by_cases hlt:k < s.size
  ·have hki:(k:Int) < s.size:=by omega
   go_wp2_with fail
   refine (tF _ w).mono ?_;rintro e w' ⟨rfl,rfl⟩;obtain ⟨x,hx⟩:∃x,zQ (s[k].toNat:Int)=x:=⟨_,rfl⟩;rw [hx];clear hx;cases x
   ·go_wp2_with fail
    go_ret;exact ⟨⟨_,rfl⟩,rfl⟩
   ·go_wp2_with fail
    go_round;case rel=>exact ⟨k+1,by omega,by go_num⟩
    case measure=>simp [intOf];omega
  ·obtain rfl:k=s.size:=by omega
   go_wp2_with fail
   go_ret;exact ⟨⟨_,rfl⟩,rfl⟩
def fq (e:Ending):Prop:=∃x:Bool,e=.returned (.bool x)
set_option maxRecDepth 20000 in
theorem tI (w:World) (b n:Nat) (D:DataW Unit) (v:Value) (s:ByteArray) (hm:w.ownsMap Tryz.prog 9 (plainElem Tryz.prog 4) b n D) (hv:v.oneCell'=true) (hs:s.size≤1048576):Calls Tryz.prog 165 #[.agg #[.map (some b),v],.string s] w fun e w'=>fq e∧Below w.heap.size w w':=by
 obtain ⟨g,hg⟩:∃g,w.heap.size=g:=⟨_,rfl⟩;obtain ⟨w1,hw1⟩:∃w1,w.alloc (.cells #[.map (some b),v] 243)=w1:=⟨_,rfl⟩;have hk:Bk w1 g 243 [.map (some b),v]:=hw1▸Bk.at_ w _ _ hg rfl;have hb:Below w.heap.size w w1:=hw1▸ai w _;have hm1:=hm.kept (av hb) (by simp);have hlk:=vv (P:=Tryz.prog) Tryz.underlying241 Tryz.underlying9 Tryz.underlying4 (Tryz.zeroValue4 _) hm1 hs;have hc0:=hk.cell 0;simp only [List.getElem?_cons_zero] at hc0;obtain ⟨x,hx⟩:∃x,atB D (f8 s)=x:=⟨_,rfl⟩;rw [hx] at hlk;have hrun:=vG s (by omega) w1;have HB:=aa hb;have HG:=aa hg;have HW:=aa hw1;have HR:=aa hrun;clear hk hb hw1 hm1 hg hm hx hrun;go_enter Tryz.func165,Tryz.ntmps165;go_upto_region 1 with fail
 rw [HW.out,HG.out];cases h0:s.toList.isEmpty with
 | true=>
  go_wp2_with fail
  go_ret;exact ⟨⟨_,rfl⟩,HB.out⟩
 | false=>
  have hpos:0 < s.size:=by
   rw [Go.ByteArray.toList_eq] at h0;rcases Nat.eq_zero_or_pos s.size with h | h
   ·have:s.data.toList=[]:=List.eq_nil_of_length_eq_zero (by rw [Array.length_toList];exact h);rw [this] at h0;simp at h0
   ·exact h
  go_wp2_with fail
  refine (lS _ w1).mono ?_;rintro e w' ⟨rfl,rfl⟩;obtain ⟨y,hy⟩:∃y,vF (s[0].toNat:Int)=y:=⟨_,rfl⟩;rw [hy];clear hy;cases y
  ·go_wp2_with fail
   go_ret;exact ⟨⟨_,rfl⟩,HB.out⟩
  ·go_wp2_with fail
   refine (HR.out).mono ?_;rintro e w' ⟨⟨t,rfl⟩,rfl⟩;go_wp2_with fail
   all_goals (go_ret;exact ⟨⟨_,rfl⟩,HB.out⟩)
theorem fY (s:ByteArray) (hs:s.size≤1048576) (w:World) (hL:cX w):Calls Tryz.prog 106 #[.string s] w fun e w'=>fq e∧Below w.heap.size w w':=by
 have HL:=aa hL;clear hL;go_enter Tryz.func106,Tryz.ntmps106;go_wp2_with fail
 refine (re w HL.out).mono ?_;rintro e w1 ⟨⟨b,n,D,v,rfl,hm,hv⟩,hb⟩;have HM:=aa hm;have HV:=aa hv;have HB:=aa hb;clear hm hv hb;go_wp2_with fail
 refine (tI w1 b n D v s HM.out HV.out hs).mono ?_;rintro e w2 ⟨⟨x,rfl⟩,hb⟩;have HB2:=aa (ab HB.out hb);clear hb;go_wp2_with fail
 go_ret;exact ⟨⟨_,rfl⟩,HB2.out⟩
end Go.Proofs.YtllbdpdnpaocnaaGreatDoor
