/-
  Parts of the proof: Tofk Task Tplain Tsig. By an AI agent.
-/
import Derived.Test.YtiebcdeafofgdaaGreatDoorJ13
import Derived.Laws.EntriesVeiled
set_option maxRecDepth 100000
set_option maxHeartbeats 8000000
namespace Go.Proofs.YtiebcdeafofgdaaGreatDoor
section
open Go.RowKit Go.Lib Go.Proofs
attribute [local go_sem ↓] Go.wp_at_zero Go.wp_at_succ
theorem pa:∀ (l:List (Nd→Bool)) (ns:List Nd),l.length≠ns.length→d7 l ns=false
 | [],[],h=>absurd rfl h
 | [],_::_,_=>rfl
 | _::_,[],_=>rfl
 | p::l,n::ns,h=>by rw [d7,pa l ns (by simpa using h)];simp
theorem yX (l:List (Nd→Bool)) (ns:List Nd) (i:Nat) (I:i<l.length) (D:i<ns.length):d7 (l.drop i) (ns.drop i)=(l[i] ns[i]&&d7 (l.drop (i+1)) (ns.drop (i+1))):=by rw [List.drop_eq_getElem_cons I,List.drop_eq_getElem_cons D,d7]
def dI (w:World) (B:Option Addr) (fs:List (Fv × (Nd→Bool))):Prop:=
 (fs=[]∧B=none)∨∃ b,B=some ⟨b,0,none⟩∧aj w b 37 (fs.map fun x=>Value.func (.func x.1.k) #[] x.1.cap).toArray
theorem dI.below {w w':World} {B:Option Addr} {fs:List (Fv × (Nd→Bool))} (h:dI w B fs) (hb:Below w.heap.size w w'):dI w' B fs:=by
 rcases h with h | ⟨b,e,h⟩
 ·exact .inl h
 ·exact .inr ⟨b,e,h.below hb h.lt⟩
theorem dI.get {w:World} {B:Option Addr} {fs:List (Fv × (Nd→Bool))} (h:dI w B fs) (i:Nat) (D:i<fs.length):∃ b,B=some ⟨b,0,none⟩∧b<w.heap.size∧w.cell? ⟨b,i,none⟩=some (.func (.func fs[i].1.k) #[] fs[i].1.cap):=by
 rcases h with ⟨rfl,_⟩ | ⟨b,e,h⟩
 ·simp at D
 ·refine ⟨b,e,h.lt,?_⟩;rw [h.cell i];simp [D]
theorem bY (d:Nat) (fs:List (Fv × (Nd→Bool))) (k:Int) (v:Value) (n:Nd) (B:Option Addr) (w:World) (m:Nat) (hm:fs.length=m) (gg:m≤9)
  (hv:eG w v n) (hd:et (d+1) n) (U:dI w B fs) (hs:∀ x∈fs,mV d x.2 x.1 w) :
  Calls Tryz.prog 154 #[v,.int .i64 k,.slice B m m] w fun e w'=>e=.returned (.bool (ew k (fs.map (·.2)) n))∧Below w.heap.size w w':=by
 have ga:=hv;obtain ⟨A,cp,rfl,hC⟩:=hv.toC;have J:=(Below.refl w.heap.size w).alloc (Nat.le_refl _) (.cells #[.int .i64 n.kind,.string n.text,.slice A n.kids.length cp,.int .i64 n.pos] 24);have b1:aj (w.alloc (.cells #[.int .i64 n.kind,.string n.text,.slice A n.kids.length cp,.int .i64 n.pos] 24)) w.heap.size 24 #[.int .i64 n.kind,.string n.text,.slice A n.kids.length cp,.int .i64 n.pos]:=aj.new w _ _;have HK:=hid (av.kidsV (ga.below J));have HF:=hid (U.below J);have HS:=hid (fun x hx=>(hs x hx).below J);have HM:=hid hm;have HD:=hid hd.2;have gd:=hd.1.1;have hE:ew k (fs.map (·.2)) n=(!(n.kind != k)&&(!(!n.text.toList.isEmpty)&&(!((n.kids.length:Int) != (m:Int))&&d7 (fs.map (·.2)) n.kids))):=by
  unfold ew;rw [aM];by_cases h3:n.kids.length=m
  ·(have:((n.kids.length:Int) != (m:Int))=false:=by simp [h3]);rw [this];simp [bne,fQ]
  ·(have h4:((n.kids.length:Int) != (m:Int))=true:=by simp;omega);rw [h4,pa (fs.map (·.2)) n.kids (by rw [List.length_map];omega)];simp
 rw [hE];clear hE ga hv hC hd U hs hm;generalize hI:d7 (fs.map (·.2)) n.kids=I;have HI:=hid hI;clear hI;generalize n.kind=nk at *;generalize n.text=nt at *;generalize n.kids=ks at *;cases h1:(nk != k) with
 | true=>(go_enter Tryz.func154,Tryz.ntmps154);(go_wp2_with fail);go_ret;exact ⟨rfl,J⟩
 | false=>
  cases h2:nt.toList.isEmpty with
  | false=>(go_enter Tryz.func154,Tryz.ntmps154);(go_wp2_with fail);go_ret;exact ⟨rfl,J⟩
  | true=>
   cases h3:((ks.length:Int) != (m:Int)) with
   | true=>(go_enter Tryz.func154,Tryz.ntmps154);(go_wp2_with fail);go_ret;exact ⟨rfl,J⟩
   | false=>
    have N:=hid (show ks.length=m by simp at h3;omega);(go_enter Tryz.func154,Tryz.ntmps154);(go_wp2_with fail);clear h3;go_loopg [7,8,28] m (fun g _ _ u28 wr=>∃ i:Nat,i≤m∧m-i≤g∧u28=.int .i64 (i:Int)∧d7 ((fs.map (·.2)).drop i) (ks.drop i)=I∧Below (w.heap.size+1) (w.alloc (.cells #[.int .i64 nk,.string nt,.slice A ks.length cp,.int .i64 n.pos] 24)) wr)
    case atStart=>exact ⟨0,Nat.zero_le _,by omega,rfl,by simpa using HI.out,Below.refl _ _⟩
    case round=>
     obtain ⟨i,hi,hg,rfl,hI,U⟩:=hrel;have HI:=hid hI;have h:=J.trans (U.mono (by omega));have O:=hid (show Below (w.alloc (.cells #[.int .i64 nk,.string nt,.slice A ks.length cp,.int .i64 n.pos] 24)).heap.size (w.alloc (.cells #[.int .i64 nk,.string nt,.slice A ks.length cp,.int .i64 n.pos] 24)) wr by simpa using U);obtain ⟨x0,x1,x2,x3,_,_,_,_⟩:=ac (b1.below U (by omega));(have ge:w.heap.size+1≤wr.heap.size:=by have:=U.size;simpa using this);clear hI U;by_cases D:i<m
     ·(have z:(i:Int)<(m:Int):=by omega);(have h0:(0:Int)≤(i:Int):=by omega);(have gb:(i:Int)<(ks.length:Int):=by rw [N.out];omega);obtain ⟨_,b,off,A1,gi,rfl,hb,k0,k1,k2,k3,hn⟩:=lF.at_ (HK.out.below O.out) i (by rw [N.out];exact D);obtain ⟨bf,rfl,gh,f0⟩:=(HF.out.below O.out).get i (by rw [HM.out];exact D);have y:=HS.out (fs[i]'(by rw [HM.out];exact D)) (List.getElem_mem _);have he:=y.enter;have HC:=hid (y.out _ _ _ O.out hn (HD.out _ (List.getElem_mem _)));have HE:=hid (yX (fs.map (·.2)) ks i (by rw [List.length_map,HM.out];exact D) (by rw [N.out];exact D));simp only [List.getElem_map] at HE;generalize fs[i]'(by rw [HM.out];exact D)=ff at *;generalize ks[i]'(by rw [N.out];exact D)=x at *;clear hn y;cases hP:ff.2 x with
      | true=>
       have HX:=hid (show d7 ((fs.map (·.2)).drop (i+1)) (ks.drop (i+1))=I by rw [←HI.out,HE.out,hP];rfl);(go_wp2_with fail);refine HC.out.mono ?_;rw [hP];rintro e w1 ⟨rfl,M⟩;have q:=O.out.trans (M.mono O.out.size);clear M HC;(go_wp2_with fail);go_roundg (m-(i+1))
       case measure=>omega
       case rel=>exact ⟨i+1,by omega,Nat.le_refl _,by go_num,HX.out,by simpa using q⟩
      | false=>have HX:=hid (show I=false by rw [←HI.out,HE.out,hP];rfl);(go_wp2_with fail);refine HC.out.mono ?_;rw [hP];rintro e w1 ⟨rfl,M⟩;have q:=h.trans (M.mono h.size);clear M HC;(go_wp2_with fail);go_ret;exact ⟨by rw [HX.out];rfl,q⟩
     ·(have z:¬ (i:Int)<(m:Int):=by omega);have h4:ks.drop i=[]:=List.drop_of_length_le (by rw [N.out];omega);have h5:(fs.map (·.2)).drop i=[]:=List.drop_of_length_le (by rw [List.length_map,HM.out];omega);have HX:=hid (show I=true by rw [←HI.out,h4,h5];rfl);clear h4 h5;(go_wp2_with fail);go_ret;exact ⟨by rw [HX.out];rfl,h⟩
theorem eP (s:ByteArray) (l:List UInt8):decide (s=⟨l.toArray⟩)=(s.toList==l):=by rw [←cU,ByteArray.toList_eq ⟨l.toArray⟩]
theorem dO (s sub:ByteArray) (w:World) (hT:cD w) (hs:s.size≤2000000000) :
  Calls Tryz.prog 78 #[.string s,.string sub] w fun e w'=>e=.returned (.bool (Lib.contains s.data.toList sub.data.toList))∧w=w':=by obtain ⟨m,D⟩:=hT;exact (Any.strings_Contains Tryz.laysContains s sub m w (by omega) D).mono fun _ _ h=>⟨h.1,h.2.symm⟩
theorem GZ (s sep:ByteArray) (w:World) (hT:cD w) (hs:s.size≤2000000000) :
  Calls Tryz.prog 215 #[.string s,.string sep] w fun e w'=>e=.returned (.tuple #[.string ⟨(Lib.cut s.data.toList sep.data.toList).1.toArray⟩,.string ⟨(Lib.cut s.data.toList sep.data.toList).2.1.toArray⟩,.bool (Lib.cut s.data.toList sep.data.toList).2.2])∧Below w.heap.size w w':=by obtain ⟨m,D⟩:=hT;exact (Any.strings_Cut Tryz.laysCut s sep m w (by omega) D).mono fun _ _ h=>⟨h.1,by obtain ⟨n,e⟩:=h.2;subst e;exact al (Below.refl _ _) n⟩
theorem rz (s:ByteArray) (w:World):Calls Tryz.prog 118 #[.string s] w fun e w'=>e=.returned (.bool (bj s))∧Below w.heap.size w w':=by
 (have hE:bj s=(decide ((s.size:Int)≤100)&&ox s):=by unfold bj;congr 1;rw [decide_eq_decide];omega);rw [hE];have I:=hid (yU s w);generalize ox s=q at *;clear hE;cases J:decide ((s.size:Int)≤100);all_goals
  (go_enter Tryz.func118,Tryz.ntmps118);(go_wp2_with fail);try
   refine I.out.mono ?_
   rintro e w1 ⟨rfl,D⟩
   go_wp2_with fail
  go_ret;exact ⟨rfl,by first | assumption | exact Below.refl _ _⟩
theorem wN (s:ByteArray) (w:World):Calls Tryz.prog 212 #[.string s] w fun e w'=>e=.returned (.bool (eE s))∧Below w.heap.size w w':=by (have hE:eE s=(bj s && !(s.toList==[95])):=by unfold eE;rw [←eP s [95],←decide_not]);rw [hE];have I:=hid (rz s w);generalize bj s=q at *;clear hE;cases q <;> cases J:(s.toList==[95]);all_goals (go_enter Tryz.func212,Tryz.ntmps212);(go_wp2_with fail);refine I.out.mono ?_;rintro e w1 ⟨rfl,D⟩;(go_wp2_with fail);go_ret;exact ⟨rfl,D⟩
theorem mn {P:ByteArray→Bool} {f:FuncId} (D:∀ a w,(callFunc f a).run Tryz.prog w=.ok (.enter f a) w) (w0:World)
  (h:∀ (s:ByteArray) (w:World),Below w0.heap.size w0 w→s.size≤1000000000→Calls Tryz.prog f #[.string s] w fun e w'=>e=.returned (.bool (P s))∧Below w.heap.size w w'):yS P ⟨f,#[]⟩ w0:=
 ⟨D,fun w s hb hs=>h s w hb hs⟩
theorem lh (w0:World):yS bj ⟨118,#[]⟩ w0:=mn (fun a w=>by kernel_rfl) w0 fun s w _ _=>rz s w
theorem EP (w0:World):yS eE ⟨212,#[]⟩ w0:=mn (fun a w=>by kernel_rfl) w0 fun s w _ _=>wN s w
theorem Dw (w0:World):yS o7 ⟨163,#[]⟩ w0:=mn (fun a w=>by kernel_rfl) w0 fun s w _ _=>by (have hE:o7 s=s.toList.isEmpty:=by unfold o7;rw [aM]);rw [hE];cases D:s.toList.isEmpty;all_goals (go_enter Tryz.func163,Tryz.ntmps163);(go_wp2_with fail);go_ret;exact ⟨rfl,Below.refl _ _⟩
theorem EQ (w0:World):yS nH ⟨209,#[]⟩ w0:=mn (fun a w=>by kernel_rfl) w0 fun s w _ _=>by (have hE:nH s=(s.toList.isEmpty||s.toList==[126]):=by unfold nH;rw [aM,eP s [126]]);rw [hE];cases I:s.toList.isEmpty <;> cases D:(s.toList==[126]);all_goals (go_enter Tryz.func209,Tryz.ntmps209);(go_wp2_with fail);go_ret;exact ⟨rfl,Below.refl _ _⟩
theorem ER (w0:World):yS iJ ⟨165,#[]⟩ w0:=mn (fun a w=>by kernel_rfl) w0 fun s w _ _=>by (have hE:iJ s=decide ((s.size:Int)≤1000):=by unfold iJ;rw [decide_eq_decide];omega);rw [hE];(go_enter Tryz.func165,Tryz.ntmps165);(go_wp2_with fail);go_ret;exact ⟨rfl,Below.refl _ _⟩
theorem ES (w0:World):yS mR ⟨166,#[]⟩ w0:=mn (fun a w=>by kernel_rfl) w0 fun s w _ _=>by (have hE:mR s=(s.toList==[45]||s.toList==[33]):=by unfold mR;rw [eP s [45],eP s [33]]);rw [hE];cases I:(s.toList==[45]) <;> cases D:(s.toList==[33]);all_goals (go_enter Tryz.func166,Tryz.ntmps166);(go_wp2_with fail);go_ret;exact ⟨rfl,Below.refl _ _⟩
theorem G0 (w0:World):yS oQ ⟨213,#[]⟩ w0:=mn (fun a w=>by kernel_rfl) w0 fun s w _ _=>by (have hE:oQ s=(s.toList==[43,43]||s.toList==[45,45]):=by unfold oQ;rw [eP s [43,43],eP s [45,45]]);rw [hE];cases I:(s.toList==[43,43]) <;> cases D:(s.toList==[45,45]);all_goals (go_enter Tryz.func213,Tryz.ntmps213);(go_wp2_with fail);go_ret;exact ⟨rfl,Below.refl _ _⟩
theorem Dx (x:ByteArray) (w:World) (hT:cD w) :
  Calls Tryz.prog 78 #[.string (⟨#[32,43,32,45,32,42,32,47,32,37,32,61,61,32,33,61,32,60,32,60,61,32,62,32,62,61,32,38,38,32,124,124,32]⟩:BA),.string x] w fun e w'=>e=.returned (.bool (Lib.contains (32::pA) x.data.toList))∧w=w':=
 dO _ x w hT (Nat.le_trans (show _≤100 by decide +kernel) (by omega))
theorem Dy (w0:World) (hT:cD w0):yS lc ⟨167,#[]⟩ w0:=mn (fun a w=>by kernel_rfl) w0 fun s w hb hs=>by
 have M:=hid (hT.below hb);(have hE:lc s=(!s.toList.isEmpty&&(!(Lib.contains s.data.toList [32])&&Lib.contains (32::pA) (32::(s.data.toList++[32])))):=by unfold lc;rw [aM,←decide_not]);rw [hE];clear hE;have I:=hid (dO s ⟨#[32]⟩ w M.out (by omega));(have J:((⟨#[32]⟩++s++⟨#[32]⟩:ByteArray)).data.toList=32::(s.data.toList++[32]):=by simp [ByteArray.data_append]);have D:=Dx (⟨#[32]⟩++s++⟨#[32]⟩) w M.out;rw [J] at D;generalize Lib.contains (32::pA) (32::(s.data.toList++[32]))=q2 at *;have O:=hid D;rw [show (⟨#[32]⟩:BA).data.toList=[32] from rfl] at I;clear D J;cases N:Lib.contains s.data.toList [32] <;> cases hE:s.toList.isEmpty;all_goals
  (go_enter Tryz.func167,Tryz.ntmps167);(go_wp2_with fail);try
   refine I.out.mono ?_
   rw [N]
   rintro e w1 ⟨rfl,rfl⟩
   go_wp2_with fail
  try
   refine O.out.mono ?_
   rintro e w1 ⟨rfl,rfl⟩
   go_wp2_with fail
  go_ret;exact ⟨rfl,Below.refl _ _⟩
theorem Dz (w0:World) (hT:cD w0):yS ld ⟨175,#[]⟩ w0:=mn (fun a w=>by kernel_rfl) w0 fun s w hb hs=>by
 have HT:=hid (hT.below hb);have U:=hid (GZ s ⟨#[44]⟩ w HT.out (by omega));(have hE:ld s=(s.toList.isEmpty||(((sj s).2.2&&(bj ⟨(sj s).1.toArray⟩&&eE ⟨(sj s).2.1.toArray⟩))||(!(sj s).2.2&&eE ⟨(sj s).1.toArray⟩))):=by unfold ld;rw [aM]);rw [hE];clear hE;rw [show Lib.cut s.data.toList (⟨#[44]⟩:BA).data.toList=sj s from rfl] at U;generalize sj s=q at *;obtain ⟨J,O,h⟩:=q;simp only at *;have y:=hid (fun w=>rz ⟨J.toArray⟩ w);have N:=hid (fun w=>wN ⟨J.toArray⟩ w);have M:=hid (fun w=>wN ⟨O.toArray⟩ w);generalize bj ⟨J.toArray⟩=n1 at *;generalize eE ⟨J.toArray⟩=b1 at *;generalize eE ⟨O.toArray⟩=b2 at *;cases z:s.toList.isEmpty <;> cases h <;> cases n1 <;> cases b1 <;> cases b2;all_goals
  (go_enter Tryz.func175,Tryz.ntmps175);(go_wp2_with fail);refine U.out.mono ?_;rintro e w1 ⟨rfl,I⟩;go_wp2_with (first
   | (go_at_call 118;with_reducible refine (y.out _).mono ?_;rintro e w2 ⟨rfl,D⟩;replace I:=I.trans (D.mono I.size);clear D)
   | (go_at_call 212;with_reducible refine (M.out _).mono ?_;rintro e w2 ⟨rfl,D⟩;replace I:=I.trans (D.mono I.size);clear D)
   | (go_at_call 212;with_reducible refine (N.out _).mono ?_;rintro e w2 ⟨rfl,D⟩;replace I:=I.trans (D.mono I.size);clear D))
  go_ret;exact ⟨rfl,I⟩
theorem yY (l:List UInt8):l.all mP=true↔∀ j,j<l.length→aK ((l.getD j 0).toNat:Int)=true:=by
 rw [List.all_eq_true];constructor
 ·intro h j D;have:=h l[j] (List.getElem_mem _);rw [lg] at this;simpa [D] using this
 ·intro h x hx;obtain ⟨j,D,rfl⟩:=List.mem_iff_getElem.1 hx;have:=h j D;rw [lg];simpa [D] using this
theorem G1 {s:ByteArray} (h:0<s.size):decide (s.data.toList.head? ≠ some 48)=((s[0].toNat:Int) != 48):=by (have e:s.data.toList.head? = some s[0]:=by rw [List.head?_eq_getElem?,List.getElem?_eq_getElem (by simpa using h)];rfl);rw [e,Bool.eq_iff_iff];simp only [ne_eq,Option.some.injEq,decide_not,Bool.not_eq_true',decide_eq_false_iff_not,bne_iff_ne];rw [←UInt8.toNat_inj];simp only [UInt8.reduceToNat];omega
theorem DA (s:ByteArray) (w:World):Calls Tryz.prog 164 #[.string s] w fun e w'=>e=.returned (.bool (mQ s))∧Below w.heap.size w w':=by
 have hT:mQ s=(s.data.toList.all mP&&(s.toList==[48]||(!s.toList.isEmpty&&(decide ((s.size:Int)≤200)&&decide (s.data.toList.head? ≠ some 48))))):=by
  unfold mQ;rw [aM,eP s [48]];congr 3
  ·simp
  ·congr 1;rw [decide_eq_decide];omega
 have hN:=yY s.data.toList;rw [hT];generalize s.data.toList.all mP=nc at *;have HN:=hid hN;clear hT hN;have i1:=World.iter_heap w s 0;have i2:Below w.heap.size w (w.iter s 0):=(Below.refl _ w).alloc (Nat.le_refl _) _;(go_enter Tryz.func164,Tryz.ntmps164);(go_wp2_with fail);go_loopg [4,7,8] s.size (fun g _ _ _ wr=>∃ i:Nat,i≤s.size∧s.size-i≤g∧wr.heap[w.heap.size]? = some (.stringIter s i)∧Below w.heap.size w wr∧(∀ j,j<i→aK ((s.data.toList.getD j 0).toNat:Int)=true))
 case atStart=>exact ⟨0,Nat.zero_le _,by omega,i1,i2,fun j hj=>by omega⟩
 case round=>
  clear i1 i2;obtain ⟨i,hi,hg,hit,hB,h⟩:=hrel;have gb:=hid hit;have HA:=hid h;clear hit h;by_cases J:i<s.size
  ·have hw:=o9 s i J;have z:=mW s i J;have D:=fun ty=>run_next_any_at (P:=Tryz.prog) wr w.heap.size s i ty gb.out J;generalize hb:(s.data.toList.getD i 0).toNat=b at *;generalize hd:Utf8.decode s i=q at *;obtain ⟨r,k⟩:=q;simp only at hw D z;have U:aK (r:Int)=aK (b:Int)∧(aK (r:Int)=true→k=1):=by
    rcases z with ⟨e,_⟩ | ⟨h1,h2⟩
    ·injection e with e1 e2;subst e1 e2;exact ⟨rfl,fun _=>rfl⟩
    ·rw [eh (by omega),eh (by omega)];exact ⟨rfl,by simp⟩
   have I:=hid U;have gd:=hid hb;have j1:=iterAt_heap wr w.heap.size s i (i+k) gb.out;have j2:Below w.heap.size w (wr.iterAt w.heap.size s (i+k)):=bR hB (Nat.le_refl _);generalize wr.iterAt w.heap.size s (i+k)=W1 at D j1 j2;have J1:=hid j1;clear U z j1 hd hb;have O:aK (r:Int)=false→nc=false:=by
    intro hf;cases hn:nc with
    | false=>rfl
    | true=>have:=(HN.out.1 hn) i (by simpa using J);rw [gd.out,←I.out.1,hf] at this;cases this
   have M:=hid O;have ge:aK (r:Int)=true→∀ j,j<i+k→aK ((s.data.toList.getD j 0).toNat:Int)=true:=by
    intro hf j hj;have hk:=I.out.2 hf;by_cases e:j=i
    ·subst e;rw [gd.out,←I.out.1,hf]
    ·exact HA.out j (by omega)
   have gi:=hid ge;clear O ge I gd HA;unfold aK at M gi;cases h1:decide ((r:Int)<48) with
   | true=>have y:=hid (M.out (by (have:decide (48≤(r:Int))=false:=by simp at h1 ⊢;omega);rw [this];rfl));(go_wp2_with fail);go_ret;exact ⟨by rw [y.out];rfl,j2⟩
   | false=>
    (have ga:decide (48≤(r:Int))=true:=by simp at h1 ⊢;omega);cases h2:decide (57<(r:Int)) with
    | true=>have y:=hid (M.out (by (have:decide ((r:Int)≤57)=false:=by simp at h2 ⊢;omega);rw [this];simp));clear ga;(go_wp2_with fail);go_ret;exact ⟨by rw [y.out];rfl,j2⟩
    | false=>
     have gh:=hid (gi.out (by (have:decide ((r:Int)≤57)=true:=by simp at h2 ⊢;omega);rw [ga,this];rfl));clear ga;(go_wp2_with fail);go_roundg (s.size-(i+k))
     case measure=>omega
     case rel=>exact ⟨i+k,hw.2,Nat.le_refl _,J1.out,j2,gh.out⟩
  ·(have gg:i=s.size:=by omega);have D:=fun ty=>run_next_end_at (P:=Tryz.prog) wr w.heap.size s i ty gb.out J;have y:=hid (show nc=true from HN.out.2 fun j hj=>HA.out j (by simp at hj;omega));clear gg;cases N:(s.toList==[48]) with
   | true=>(go_wp2_with fail);go_ret;exact ⟨by rw [y.out,N];rfl,hB⟩
   | false=>
    cases hE:s.toList.isEmpty with
    | true=>(go_wp2_with fail);go_ret;exact ⟨by rw [y.out,N,hE];rfl,hB⟩
    | false=>
     cases hL:decide ((s.size:Int)≤200) with
     | false=>(go_wp2_with fail);go_ret;exact ⟨by rw [y.out,N,hE,hL];rfl,hB⟩
     | true=>
      have hp:0<s.size:=by
       rcases Nat.eq_zero_or_pos s.size with h0 | h0
       ·(have:s.toList=[]:=by rw [ByteArray.toList_eq];exact List.eq_nil_of_length_eq_zero h0);rw [this] at hE;cases hE
       ·exact h0
      (have gj:(0:Int)<(s.size:Int):=by omega);(go_wp2_with fail);go_ret;refine ⟨?_,hB⟩;rw [y.out,N,hE,hL,G1 hp];rfl
theorem ET (w0:World):yS mQ ⟨164,#[]⟩ w0:=mn (fun a w=>by kernel_rfl) w0 fun s w _ _=>DA s w
structure pT (g:Nat) (F:eF):Prop where
 typ:fe g F.typ 121
 expr:fe g F.expr 122
 block:fe g F.block 157
 stmt:fe g F.stmt 123
 ifS:fe g F.ifS 173
theorem pT.pred {d:Nat} {F:eF} (h:pT (d+1) F):pT d F:=
 ⟨h.typ.le fun _=>et.succ,h.expr.le fun _=>et.succ,h.block.le fun _=>et.succ,h.stmt.le fun _=>et.succ,h.ifS.le fun _=>et.succ⟩
theorem fZ (a:Array Value) (w:World):(callFunc 121 a).run Tryz.prog w=.ok (.enter 121 a) w:=by kernel_rfl
theorem dk (a:Array Value) (w:World):(callFunc 122 a).run Tryz.prog w=.ok (.enter 122 a) w:=by kernel_rfl
theorem lu (a:Array Value) (w:World):(callFunc 157 a).run Tryz.prog w=.ok (.enter 157 a) w:=by kernel_rfl
theorem Fp (a:Array Value) (w:World):(callFunc 123 a).run Tryz.prog w=.ok (.enter 123 a) w:=by kernel_rfl
theorem Lm (a:Array Value) (w:World):(callFunc 173 a).run Tryz.prog w=.ok (.enter 173 a) w:=by kernel_rfl
theorem DS (a:Array Value) (w:World):(callFunc 174 a).run Tryz.prog w=.ok (.enter 174 a) w:=by kernel_rfl
theorem iL (d:Nat) (w0:World):mV d aS ⟨174,#[]⟩ w0:=⟨DS,fun w v n _ hv _=>rx w v n hv⟩
theorem dI.new {w:World} {b:Nat} (fs:List (Fv × (Nd→Bool))) {cs:Array Value} (hc:cs=(fs.map fun x=>Value.func (.func x.1.k) #[] x.1.cap).toArray) (h:aj w b 37 cs):dI w (some ⟨b,0,none⟩) fs:=
 .inr ⟨b,rfl,by rw [←hc];exact h⟩
theorem Fq (g:Nat) (F:eF) (hF:pT g F) (so:ByteArray→Bool) (f:Fv) (b:Nat) (w0:World) (hT:cD w0) (hs:yS so f w0) (hb:aj w0 b 49 #[.func (.func f.k) #[] f.cap]) :
  mV g (o0 F so) ⟨210,#[.pointer (some ⟨b,0,none⟩)]⟩ w0:=by
 refine ⟨fun a w=>by kernel_rfl,fun w v n hw hv hd=>?_⟩;cases g with
 | zero=>exact hd.elim
 | succ d=>have O:=hv;obtain ⟨A,cp,rfl,hC⟩:=hv.toC;have h:=(Below.refl w.heap.size w).alloc (Nat.le_refl _) (.cells (nv n A cp) 24);have D:=hw.alloc hw.size (.cells (nv n A cp) 24);have ca:=aJ (hb.below D hb.lt);have HN:=hid (cB _ _ n (O.below h) f so (hs.below D) hd.txt);have HT:=hid (hT.below D);have HF:=hid hF;have HD:=hid hd;have gb:=hb.lt;have ga:=hw.size;show Calls _ _ _ w fun e w'=>e=.returned (.bool (ew 8 [F.typ] (aA so n)))∧_;clear O hv hC hb hs hT hF hd;(go_enter Tryz.func210,Tryz.ntmps210);(go_wp2_with fail);refine HN.out.mono ?_;rintro e w1 ⟨v1,rfl,q,J⟩;have z:=hid (HT.out.below J);have U:=h.trans (J.mono h.size);clear J HN h D ca HT;(go_wp2_with fail);have I:=(Below.refl w1.heap.size w1).alloc (Nat.le_refl _) (.cells #[.func (.func 121) #[] #[]] 37);have M:=U.trans (I.mono U.size);refine (bY d [(⟨121,#[]⟩,F.typ)] 8 v1 (aA so n) _ _ 1 rfl (by omega) (q.below I) HD.out.named (dI.new _ rfl (aj.new w1 _ _)) (by intro x hx;obtain rfl:=List.mem_singleton.1 hx;exact HF.out.pred.typ.so fZ _ (z.out.below I))).mono ?_;rintro e w2 ⟨rfl,N⟩;have y:=M.trans (N.mono M.size);clear I N M;(go_wp2_with fail);go_ret;exact ⟨rfl,y⟩
theorem Fr (g:Nat) (P:Nd→Bool) (f:Fv) (b:Nat) (w0:World) (hs:mV g P f w0) (hb:aj w0 b 37 #[.func (.func f.k) #[] f.cap]) :
  mV g (lY P) ⟨211,#[.pointer (some ⟨b,0,none⟩)]⟩ w0:=by
 refine ⟨fun a w=>by kernel_rfl,fun w v n hw hv hd=>?_⟩;cases g with
 | zero=>exact hd.elim
 | succ d=>have J:=hv;obtain ⟨A,cp,rfl,q⟩:=hv.toC;have M:=(Below.refl w.heap.size w).alloc (Nat.le_refl _) (.cells (nv n A cp) 24);have D:=hw.alloc hw.size (.cells (nv n A cp) 24);have ca:=aJ (hb.below D hb.lt);have O:=hid (yW d P f _ n _ (J.below M) hd ⟨hs.enter,fun w' v' n' y h2 h3=>hs.out w' v' n' (D.trans (y.mono D.size)) h2 h3.succ⟩);have h:=hb.lt;have U:=hw.size;clear J hv q hb hs hd;(go_enter Tryz.func211,Tryz.ntmps211);(go_wp2_with fail);refine O.out.mono ?_;rintro e w1 ⟨rfl,I⟩;have N:=M.trans (I.mono M.size);clear I O M;(go_wp2_with fail);go_ret;exact ⟨rfl,N⟩
theorem lk {w:World} {g:Nat} {t:TypeId} {a b c d:Value} (h:aj w g t #[a,b,c,d]):w.cell? ⟨g,0,none⟩=some a∧w.cell? ⟨g,1,none⟩=some b∧w.cell? ⟨g,2,none⟩=some c∧w.cell? ⟨g,3,none⟩=some d:=by obtain ⟨M,J,I,D,_⟩:=ac h;exact ⟨M,J,I,D⟩
theorem AA {d:Nat} {w:World} {f g:Fv} {P Q:Nd→Bool} (I:mV d P f w) (D:mV d Q g w):∀ x∈[(f,P),(g,Q)],mV d x.2 x.1 w:=by
 intro x hx;rcases List.mem_cons.1 hx with rfl | hx
 ·exact I
 ·obtain rfl:=List.mem_singleton.1 hx;exact D
theorem CY (g:Nat) (F:eF) (hF:pT g F) (so:ByteArray→Bool) (f:Fv) (v:Value) (n:Nd) (w:World) (hT:cD w) (z:eG w v n) (hd:et (g+1) n) (hs:yS so f w) :
  Calls Tryz.prog 162 #[v,.func (.func f.k) #[] f.cap] w fun e w'=>e=.returned (.bool (uj F so n))∧Below w.heap.size w w':=by
 have U:=z;obtain ⟨A,cp,rfl,hC⟩:=z.toC;have HV:=hid U;have HT:=hid hT;have HS:=hid hs;have HD:=hid hd;have HF:=hid hF;clear U z hC hT hs hd hF;show Calls _ _ _ w fun e w'=>e=.returned (.bool (ew 12 [lY (o0 F so),fm aS F.typ] n))∧_;(go_enter Tryz.func162,Tryz.ntmps162);(go_wp2_with fail);have c0:aj (((w.alloc (.cells (nv n A cp) 24)).alloc (.cells #[.func (.func f.k) #[] f.cap] 49)).alloc (.cells #[.func (.func 210) #[] #[.pointer (some ⟨w.heap.size+1,0,none⟩)]] 37)) w.heap.size 24 (nv n A cp):=((aj.new w _ _).alloc _).alloc _;have c1:aj (((w.alloc (.cells (nv n A cp) 24)).alloc (.cells #[.func (.func f.k) #[] f.cap] 49)).alloc (.cells #[.func (.func 210) #[] #[.pointer (some ⟨w.heap.size+1,0,none⟩)]] 37)) (w.heap.size+1) 49 #[.func (.func f.k) #[] f.cap]:=(aj.new_at (by simp) _ _).alloc _;have c2:aj (((w.alloc (.cells (nv n A cp) 24)).alloc (.cells #[.func (.func f.k) #[] f.cap] 49)).alloc (.cells #[.func (.func 210) #[] #[.pointer (some ⟨w.heap.size+1,0,none⟩)]] 37)) (w.heap.size+1+1) 37 #[.func (.func 210) #[] #[.pointer (some ⟨w.heap.size+1,0,none⟩)]]:=aj.new_at (by simp) _ _;have M:Below w.heap.size w (((w.alloc (.cells (nv n A cp) 24)).alloc (.cells #[.func (.func f.k) #[] f.cap] 49)).alloc (.cells #[.func (.func 210) #[] #[.pointer (some ⟨w.heap.size+1,0,none⟩)]] 37)):=by (repeat' (first | with_reducible assumption | with_reducible exact Below.refl _ _ | with_reducible refine Below.alloc ?_ ?_ _ | with_reducible refine Below.setCell ?_ ?_ _ | with_reducible refine Below.drew ?_ | with_reducible refine al ?_ _ | (simp <;> omega) | omega))
 generalize (((w.alloc (.cells (nv n A cp) 24)).alloc (.cells #[.func (.func f.k) #[] f.cap] 49)).alloc (.cells #[.func (.func 210) #[] #[.pointer (some ⟨w.heap.size+1,0,none⟩)]] 37))=W at *;have gb:=hid (HV.out.below M);have q:=hid (HT.out.below M);have HL:=hid (Fr g (o0 F so) ⟨210,#[.pointer (some ⟨w.heap.size+1,0,none⟩)]⟩ (w.heap.size+1+1) W (Fq g F HF.out so f _ W q.out (HS.out.below M) c1) c2);have N:=c0.lt;have ge:=c2.lt;have I:Below W.heap.size W W.drew:=(Below.refl _ _).drew;have gd:=hid (q.out.below I);have J:=M.trans (I.mono M.size);have C0:=hid c0.drew;clear c1 c2 c0 M HT HV HS;go_region_held3 (fun w'=>w'.cell? ⟨w.heap.size,0,none⟩=some (.int .i64 n.kind)∧w'.cell? ⟨w.heap.size,1,none⟩=some (.string n.text)∧w'.cell? ⟨w.heap.size,2,none⟩=some (.slice A n.kids.length cp)∧w'.cell? ⟨w.heap.size,3,none⟩=some (.int .i64 n.pos))
  (first | with_reducible exact lk q3 | with_reducible exact lk (y.alloc _) | with_reducible exact lk y | with_reducible exact lk C0.out)
  (first
   | (go_at_call 158;refine (eZ g aS F.typ ⟨174,#[]⟩ ⟨121,#[]⟩ _ (iL g _) (HF.out.typ.so fZ _ gd.out)).mono ?_;rintro e w2 ⟨h,rfl,ga,D⟩;have y:=C0.out.below D N)
   | (go_at_call 154;refine (bY g [(⟨211,#[.pointer (some ⟨w.heap.size+1+1,0,none⟩)]⟩,lY (o0 F so)),(h,fm aS F.typ)] 12 _ n _ _ 2 rfl (by omega) ((gb.out.below I).below (D.alloc D.size _)) HD.out (dI.new _ rfl (aj.new w2 _ _)) (AA ((HL.out.below I).below (D.alloc D.size _)) (ga.below ((Below.refl _ w2).alloc (Nat.le_refl _) _)))).mono ?_;rintro e w3 ⟨rfl,O⟩;have q3:=(y.alloc _).below O (Nat.lt_of_lt_of_le N (Nat.le_trans D.size (by simp)))))
 (all_goals go_wp2_with fail);(all_goals go_ret);all_goals exact ⟨rfl,(J.trans (D.mono J.size)).trans ((((Below.refl _ w2).alloc (Nat.le_refl _) _).trans (O.mono (by simp))).mono (Nat.le_trans J.size D.size))⟩
end
end Go.Proofs.YtiebcdeafofgdaaGreatDoor
