/-
  Parts of the proof: Tname Tof Tall Tofk Task Tplain. By an AI agent.
-/
import Derived.Test.YtiebcdeafofgdaaGreatDoorL03
import Derived.Laws.Entries
set_option maxRecDepth 100000
set_option maxHeartbeats 8000000
namespace Go.Proofs.YtiebcdeafofgdaaGreatDoor
section
open Go.RowKit Go.Lib Go.Proofs
attribute [local go_sem ↓] Go.wp_at_zero Go.wp_at_succ
theorem b8 {w wr:World} {b:Nat} {s:ByteArray} {k:Nat} {B:Nat} (h:Below B w wr) (hb:B≤b):Below B w (wr.iterAt b s k):=
 ⟨h.os,h.tape,h.output,by rw [iterAt_size];exact h.size,fun j hj=>(iterAt_other wr _ _ s _ (by omega)).trans (h.block j hj)⟩
theorem mM (s:ByteArray) (i:Nat) (h:i<s.size):1≤(Utf8.decode s i).2∧i+(Utf8.decode s i).2≤s.size:=by simp only [Utf8.decode];(repeat' split);(all_goals simp_all);all_goals omega
def En (s:ByteArray) (j:Nat):Bool:=aA ((s.data.toList.getD j 0).toNat:Int)||(decide (0<j)&&ao ((s.data.toList.getD j 0).toNat:Int))
theorem fR (c:UInt8):fo c=aA (c.toNat:Int):=by unfold fo aA;rw [Bool.eq_iff_iff];simp [UInt8.le_iff_toNat_le,←UInt8.toNat_inj];omega
theorem dq (c:UInt8):cY c=ao (c.toNat:Int):=by unfold cY ao;rw [Bool.eq_iff_iff];simp [UInt8.le_iff_toNat_le];omega
theorem mC (l:List UInt8):bL l=true↔∀ j,j<l.length→(aA ((l.getD j 0).toNat:Int)||(decide (0<j)&&ao ((l.getD j 0).toNat:Int)))=true:=by
 cases l with
 | nil=>simp [bL]
 | cons c r=>
  unfold bL;rw [Bool.and_eq_true,List.all_eq_true];constructor
  ·rintro ⟨K,J⟩ j D;cases j with
   | zero=>simp [←fR,K]
   | succ j=>(have I:j<r.length:=by simpa using D);have:=J r[j] (List.getElem_mem _);rw [fR,dq] at this;simpa [I] using this
  ·intro h;refine ⟨by have:=h 0 (by simp);simpa [←fR] using this,fun x hx=>?_⟩;obtain ⟨j,D,rfl⟩:=List.mem_iff_getElem.1 hx;have:=h (j+1) (by simpa using D);rw [fR,dq];simpa [D] using this
theorem fJ {c:Int} (h:128≤c):aA c=false:=by unfold aA;(have J:(c==95)=false:=by simp;omega);(have I:decide (c≤122)=false:=by simp;omega);(have D:decide (c≤90)=false:=by simp;omega);rw [J,I,D];simp
theorem dC {c:Int} (h:128≤c):ao c=false:=by unfold ao;(have D:decide (c≤57)=false:=by simp;omega);rw [D];simp
theorem lo (s:ByteArray) (i:Nat) (h:i<s.size):(Utf8.decode s i=((s.data.toList.getD i 0).toNat,1)∧(s.data.toList.getD i 0).toNat<128)∨(128≤(Utf8.decode s i).1∧128≤(s.data.toList.getD i 0).toNat):=by
 (have e:s.data.toList.getD i 0=s[i]:=by rw [List.getD_eq_getElem?_getD,List.getElem?_eq_getElem (by simpa using h)];rfl);rw [e];rcases Nat.lt_or_ge s[i].toNat 128 with D | D
 ·exact .inl ⟨decode_ascii s i h D,D⟩
 ·exact .inr ⟨(decode_high s i h D).1,D⟩
def lN (i:Nat) (c:Int):Bool:=aA c||(decide (0<i)&&ao c)
theorem tl (s:ByteArray) (w:World):Calls Tryz.prog 151 #[.string s] w fun e w'=>e=.returned (.bool (cz s))∧Below w.heap.size w w':=by
 (have hT:cz s=(bL s.data.toList&&(!s.toList.isEmpty&&(aX s==0))):=by unfold cz;rw [af,dU];congr 2;rw [Bool.eq_iff_iff];simp);have hN:=mC s.data.toList;rw [hT];generalize bL s.data.toList=nc at *;have HN:=hid hN;clear hT hN;have i1:=World.iter_heap w s 0;have i2:Below w.heap.size w (w.iter s 0):=(Below.refl _ w).alloc (Nat.le_refl _) _;(go_enter Tryz.func151,Tryz.ntmps151);(go_wp2_with fail);go_loopg [3,4,7,8] s.size (fun g _ _ _ _ wr=>∃ i:Nat,i≤s.size∧s.size-i≤g∧wr.heap[w.heap.size]? = some (.stringIter s i)∧Below w.heap.size w wr∧(∀ j,j<i→En s j=true))
 case atStart=>exact ⟨0,Nat.zero_le _,by omega,i1,i2,fun j hj=>by omega⟩
 case round=>
  clear i1 i2;obtain ⟨i,hi,hg,hit,hB,h⟩:=hrel;have ge:=hid hit;have HA:=hid h;clear hit h;by_cases K:i<s.size
  ·have hw:=mM s i K;have gb:=lo s i K;have I:=fun ty=>run_next_any_at (P:=Tryz.prog) wr w.heap.size s i ty ge.out K;have gh:En s i=lN i ((s.data.toList.getD i 0).toNat:Int):=rfl;generalize hb:(s.data.toList.getD i 0).toNat=b at *;generalize hd:Utf8.decode s i=q at *;obtain ⟨r,k⟩:=q;simp only at hw I gb;have U:lN i (r:Int)=lN i (b:Int)∧(lN i (r:Int)=true→k=1):=by
    rcases gb with ⟨e,_⟩ | ⟨h1,h2⟩
    ·injection e with e1 e2;subst e1 e2;exact ⟨rfl,fun _=>rfl⟩
    ·unfold lN;rw [fJ (by omega),fJ (by omega),dC (by omega),dC (by omega)];exact ⟨rfl,by simp⟩
   have gd:=hid gh;have J:=hid U;have j1:=iterAt_heap wr w.heap.size s i (i+k) ge.out;have j2:Below w.heap.size w (wr.iterAt w.heap.size s (i+k)):=b8 hB (Nat.le_refl _);generalize wr.iterAt w.heap.size s (i+k)=W1 at I j1 j2;have J1:=hid j1;clear gh U gb j1 hd hb;have O:lN i (r:Int)=false→nc=false:=by
    intro hf;cases hn:nc with
    | false=>rfl
    | true=>have:=(HN.out.1 hn) i (by simpa using K);rw [show (aA ((s.data.toList.getD i 0).toNat:Int)||(decide (0<i)&&ao ((s.data.toList.getD i 0).toNat:Int)))=En s i from rfl,gd.out,←J.out.1,hf] at this;cases this
   have N:=hid O;have gi:lN i (r:Int)=true→k=1∧∀ j,j<i+k→En s j=true:=by
    intro hf;have hk:=J.out.2 hf;refine ⟨hk,fun j hj=>?_⟩;by_cases e:j=i
    ·subst e;rw [gd.out,←J.out.1,hf]
    ·exact HA.out j (by omega)
   have gg:=hid gi;clear O gi J gd HA;unfold lN at N gg;cases u:aA (r:Int) with
   | true=>
    obtain ⟨_,D⟩:=gg.out (by rw [u];rfl);have M:=hid D;clear D;(go_wp2_with fail);refine (cV _ _).mono ?_;rw [u];rintro e w1 ⟨rfl,rfl⟩;(go_wp2_with fail);go_roundg (s.size-(i+k))
    case measure=>omega
    case rel=>exact ⟨i+k,hw.2,Nat.le_refl _,J1.out,j2,M.out⟩
   | false=>
    by_cases hz:i=0
    ·have HX:=hid (N.out (by rw [u,hz];rfl));(have yk:((i:Int)==0)=true:=by simp [hz]);clear hz;(go_wp2_with fail);refine (cV _ _).mono ?_;rw [u];rintro e w1 ⟨rfl,rfl⟩;(go_wp2_with fail);go_ret;exact ⟨by rw [HX.out];rfl,j2⟩
    ·(have yk:((i:Int)==0)=false:=by simp;omega);(have ga:decide (0<i)=true:=by simp;omega);cases hF:ao (r:Int) with
     | true=>
      obtain ⟨_,D⟩:=gg.out (by rw [u,hF,ga];rfl);have M:=hid D;clear D ga hz;(go_wp2_with fail);refine (cV _ _).mono ?_;rw [u];rintro e w1 ⟨rfl,rfl⟩;(go_wp2_with fail);refine (eD _ _).mono ?_;rw [hF];rintro e w1 ⟨rfl,rfl⟩;(go_wp2_with fail);go_roundg (s.size-(i+k))
      case measure=>omega
      case rel=>exact ⟨i+k,hw.2,Nat.le_refl _,J1.out,j2,M.out⟩
     | false=>have HX:=hid (N.out (by rw [u,hF];simp));clear ga hz;(go_wp2_with fail);refine (cV _ _).mono ?_;rw [u];rintro e w1 ⟨rfl,rfl⟩;(go_wp2_with fail);refine (eD _ _).mono ?_;rw [hF];rintro e w1 ⟨rfl,rfl⟩;(go_wp2_with fail);go_ret;exact ⟨by rw [HX.out];rfl,j2⟩
  ·(have gj:i=s.size:=by omega);have I:=fun ty=>run_next_end_at (P:=Tryz.prog) wr w.heap.size s i ty ge.out K;have HX:=hid (show nc=true from HN.out.2 fun j hj=>HA.out j (by simp at hj;omega));clear gj;cases hE:s.toList.isEmpty with
   | true=>(go_wp2_with fail);go_ret;exact ⟨by rw [HX.out,hE];rfl,hB⟩
   | false=>(go_wp2_with fail);refine (tj _ _).mono ?_;rintro e w1 ⟨rfl,rfl⟩;(go_wp2_with fail);go_ret;exact ⟨by rw [HX.out,hE];rfl,hB⟩
theorem nO (w:World) (v:Value) (n:Nd) (D:ax w v n):Calls Tryz.prog 174 #[v] w fun e w'=>e=.returned (.bool (ag n))∧Below w.heap.size w w':=by obtain ⟨A,cp,rfl,I⟩:=D.toC;(have hE:ag n=(n.kind==0&&(n.text.toList.isEmpty&&((n.kids.length:Int)==0))):=by unfold ag;rw [af,dU,dU];congr 2;rw [decide_eq_decide];omega);rw [hE];generalize hl:(n.kids.length:Int)=m at *;generalize n.kind=k at *;generalize n.text=t at *;clear hE D I;cases M:(k==0) <;> cases K:t.toList.isEmpty <;> cases J:(m==0);all_goals (go_enter Tryz.func174,Tryz.ntmps174);(go_wp2_with fail);go_ret;refine ⟨rfl,?_⟩;exact bel
theorem ai.retext {X:Nat→Prop} {w:World} {k:Value} {t p:Value} {A:Option Addr} {c:Nat} {n:Nd} (h:ai X w (.agg #[k,t,.slice A n.kids.length c,p]) n) (x:ByteArray) :
  ai X w (.agg #[.int .i64 n.kind,.string x,.slice A n.kids.length c,.int .i64 n.pos]) (.mk n.kind x n.kids n.pos):=by obtain ⟨K,c1,xs,e,J,I,D⟩:=h;injection e with e;injection e with e;simp only [List.cons.injEq,and_true] at e;obtain ⟨_,_,e,_⟩:=e;injection e with e1 _ e3;subst e1 e3;exact ⟨A,c,xs,rfl,J,I,D⟩
def Iq (w:World) (n:Nd) (e:Ending) (w':World):Prop:=∃ v,e=.returned v∧ax w' v n∧Below w.heap.size w w'
theorem bM (w:World) (v:Value) (n:Nd) (K:ax w v n) (f:Fv) (P:ByteArray→Bool) (hs:ti P f w) (q:n.text.size≤1000000000) :
  Calls Tryz.prog 155 #[v,.func (.func f.k) #[] f.cap] w (Iq w (aq P n)):=by
 have I:=K;obtain ⟨A,cp,rfl,hC⟩:=K.toC;have he:=hs.enter;have j:=hid hs;have hB:=((Below.refl w.heap.size w).alloc (Nat.le_refl _) (.cells #[.int .i64 n.kind,.string n.text,.slice A n.kids.length cp,.int .i64 n.pos] 24)).alloc (by simp) (.cells bZ 24);have h:ar ((w.alloc (.cells #[.int .i64 n.kind,.string n.text,.slice A n.kids.length cp,.int .i64 n.pos] 24)).alloc (.cells bZ 24)) w.heap.size 24 #[.int .i64 n.kind,.string n.text,.slice A n.kids.length cp,.int .i64 n.pos]:=(ar.new w _ _).alloc _;have U:ar ((w.alloc (.cells #[.int .i64 n.kind,.string n.text,.slice A n.kids.length cp,.int .i64 n.pos] 24)).alloc (.cells bZ 24)) (w.heap.size+1) 24 bZ:=ar.new_at (by simp) _ _;have M:=hid I;clear I K hC hs;(go_enter Tryz.func155,Tryz.ntmps155);(go_wp2_with fail);refine (j.out.out _ _ hB q).mono ?_;rintro e O ⟨rfl,D⟩;have c1:=h.below D (by simp;omega);have c2:=U.below D (by simp);have ga:=am hB D;clear h U hB D he j;obtain ⟨x0,x1,x2,x3,y0,y1,y2,y3⟩:=ac c1;obtain ⟨z0,z1,z2,z3,u0,u1,u2,u3⟩:=ac c2;(have u:w.heap.size+1≠w.heap.size:=by omega);cases J:P n.text with
 | true=>have N:=hid (show aq P n=.mk n.kind (⟨#[]⟩:BA) n.kids n.pos by unfold aq;rw [J];rfl);clear J;(go_wp2_with fail);have hb:ar (bJ (O.setCell ⟨w.heap.size,1,none⟩ (.string (⟨#[]⟩:BA))) (w.heap.size+1) (.int .i64 n.kind) (.string (⟨#[]⟩:BA)) (.slice A n.kids.length cp) (.int .i64 n.pos)) (w.heap.size+1) 24 #[.int .i64 n.kind,.string (⟨#[]⟩:BA),.slice A n.kids.length cp,.int .i64 n.pos]:=bU (c2.far (p:=⟨w.heap.size,1,none⟩) (by show w.heap.size+1≠w.heap.size;omega) _) _ _ _ _;refine bodyPost_ret (fQ rfl _ (by rfl) hb) rfl ?_;rw [N.out];exact ⟨_,rfl,(ai.retext M.out (⟨#[]⟩:BA)).below lJ,lJ⟩
 | false=>have N:=hid (show aq P n=.mk 37 (⟨#[]⟩:BA) [] 0 by unfold aq;rw [J];rfl);clear J;(go_wp2_with fail);have hb:ar (bJ O (w.heap.size+1) (.int .i64 37) (.string (⟨#[]⟩:BA)) (.slice none 0 0) (.int .i64 0)) (w.heap.size+1) 24 #[.int .i64 37,.string (⟨#[]⟩:BA),.slice none 0 0,.int .i64 0]:=bU c2 _ _ _ _;refine bodyPost_ret (fQ rfl _ (by rfl) hb) rfl ?_;rw [N.out];exact ⟨_,rfl,ai.leaf _ _ _,lJ⟩
theorem bc {w:World} {g:Nat} {t:TypeId} {a:Value} (h:ar w g t #[a]):w.cell? ⟨g,0,none⟩=some a:=by have c0:=h.cell 0;simp at c0;exact c0
theorem Eo (d:Nat) (P Q:Nd→Bool) (f g:Fv) (w0:World) (j:ln d P f w0) (h:ln d Q g w0) (a b:Nat)
  (ha:ar w0 a 37 #[.func (.func f.k) #[] f.cap]) (hb:ar w0 b 37 #[.func (.func g.k) #[] g.cap]) :
  ln d (bI P Q) ⟨206,#[.pointer (some ⟨a,0,none⟩),.pointer (some ⟨b,0,none⟩)]⟩ w0:=by
 refine ⟨fun a w=>by kernel_rfl,fun w v n hw hv hd=>?_⟩;have gd:=j.enter;have gb:=h.enter;have J:=hv;obtain ⟨A,cp,rfl,hC⟩:=hv.toC;have hB:=(ae w #[.int .i64 n.kind,.string n.text,.slice A n.kids.length cp,.int .i64 n.pos]).1;have I:=hw.alloc hw.size (.cells #[.int .i64 n.kind,.string n.text,.slice A n.kids.length cp,.int .i64 n.pos] 24);have b1:=(ae w #[.int .i64 n.kind,.string n.text,.slice A n.kids.length cp,.int .i64 n.pos]).2;have ca:=bc (ha.bl I);have HF:=hid (j.out _ _ n I (J.below hB) hd);have U:=hb.lt;have HV:=hid (J.below hB);have HG:=hid h;have u:=hid hb;have ga:=hw.size;show Calls _ _ _ w fun e w'=>e=.returned (.bool (P n||Q n))∧_;clear j h J hv hC ha hb;(go_enter Tryz.func206,Tryz.ntmps206);(go_wp2_with fail);refine HF.out.mono ?_;rintro e w1 ⟨rfl,D⟩;have M:=am I D;have cb:=bc (u.out.below M U);obtain ⟨x0,x1,x2,x3,_,_,_,_⟩:=ac (b1.below D (by simp));have O:=hid (HG.out.out _ _ n M (HV.out.below D) hd);have K:=am hB D;clear D hB b1 I ca HF;cases hP:P n with
 | true=>(go_wp2_with fail);go_ret;exact ⟨by rw [hP];rfl,K⟩
 | false=>(go_wp2_with fail);refine O.out.mono ?_;rintro e w2 ⟨rfl,N⟩;have q:=am K N;clear N O K;(go_wp2_with fail);go_ret;exact ⟨by rw [hP];rfl,q⟩
theorem d8 (d:Nat) (P Q:Nd→Bool) (f g:Fv) (w:World) (I:ln d P f w) (D:ln d Q g w) :
  Calls Tryz.prog 158 #[.func (.func f.k) #[] f.cap,.func (.func g.k) #[] g.cap] w fun e w'=>∃ h:Fv,e=.returned (.func (.func h.k) #[] h.cap)∧ln d (bI P Q) h w'∧Below w.heap.size w w':=by have N:=hid I;have M:=hid D;have hB:=((Below.refl w.heap.size w).alloc (Nat.le_refl _) (.cells #[.func (.func f.k) #[] f.cap] 37)).alloc (by simp) (.cells #[.func (.func g.k) #[] g.cap] 37);have K:ar ((w.alloc (.cells #[.func (.func f.k) #[] f.cap] 37)).alloc (.cells #[.func (.func g.k) #[] g.cap] 37)) w.heap.size 37 #[.func (.func f.k) #[] f.cap]:=(ar.new w _ _).alloc _;have J:ar ((w.alloc (.cells #[.func (.func f.k) #[] f.cap] 37)).alloc (.cells #[.func (.func g.k) #[] g.cap] 37)) (w.heap.size+1) 37 #[.func (.func g.k) #[] g.cap]:=ar.new_at (by simp) _ _;clear I D;(go_enter Tryz.func158,Tryz.ntmps158);(go_wp2_with fail);go_ret;exact ⟨⟨206,#[.pointer (some ⟨w.heap.size,0,none⟩),.pointer (some ⟨w.heap.size+1,0,none⟩)]⟩,rfl,Eo d P Q f g _ (N.out.below hB) (M.out.below hB) _ _ K J,hB⟩
theorem fe.at_ {w:World} {A:Option Addr} {n c:Nat} {l:List Nd} (h:fe w (.slice A n c) l) (i:Nat) (J:i<l.length) :
  n = l.length∧∃ b off D cp,A=some ⟨b,off,none⟩∧b<w.heap.size∧w.cell? ⟨b,off+i * 4,none⟩=some (.int .i64 l[i].kind)∧w.cell? ⟨b,off+i * 4+1,none⟩=some (.string l[i].text) ∧
    w.cell? ⟨b,off+i * 4+2,none⟩=some (.slice D l[i].kids.length cp)∧w.cell? ⟨b,off+i * 4+3,none⟩=some (.int .i64 l[i].pos) ∧
    ax w (.agg #[.int .i64 l[i].kind,.string l[i].text,.slice D l[i].kids.length cp,.int .i64 l[i].pos]) l[i]:=by (have I:n=l.length:=by obtain ⟨_,_,_,e,_⟩:=h;injection e);obtain ⟨b,off,D,cp,e,_,j,U,O,N,M,K⟩:=h.kid i J;exact ⟨I,b,off,D,cp,e,j,U,O,N,M,K⟩
def rk (P:Nd→Bool):List Nd→Nat→Int
 | [],_ => -1
 | n::l,i=>if P n then (i:Int) else rk P l (i+1)
theorem tm (P:Nd→Bool):∀ (l:List Nd) (i:Nat),decide (0≤rk P l i)=l.any P
 | [],i=>rfl
 | n::l,i=>by
  rw [rk,List.any_cons];cases D:P n with
  | true=>simp
  | false=>simpa using tm P l (i+1)
theorem Ah (P:Nd→Bool) (l:List Nd) (i:Nat) (D:i<l.length):rk P (l.drop i) i=if P l[i] then (i:Int) else rk P (l.drop (i+1)) (i+1):=by rw [List.drop_eq_getElem_cons D,rk]
theorem rl (d:Nat) (P:Nd→Bool) (f:Fv) (A:Option Addr) (c:Nat) (l:List Nd) (w:World) (hv:fe w (.slice A l.length c) l) (hd:∀ n∈l,cq d n) (hl:l.length≤1000000000) (u:ln d P f w) :
  Calls Tryz.prog 202 #[.slice A l.length c,.func (.func f.k) #[] f.cap] w fun e w'=>e=.returned (.int .i64 (rk P l 0))∧Below w.heap.size w w':=by
 have he:=u.enter;have HF:=hid u;have HV:=hid hv;have HD:=hid hd;generalize O:rk P l 0=I;have h:=hid O;clear u hv hd O;(go_enter Tryz.func202,Tryz.ntmps202);(go_wp2_with fail);go_loopg [5,8] l.length (fun g _ u8 wr=>∃ i:Nat,i≤l.length∧l.length-i≤g∧u8=.int .i64 (i:Int)∧rk P (l.drop i) i=I∧Below w.heap.size w wr)
 case atStart=>exact ⟨0,Nat.zero_le _,by omega,rfl,by simpa using h.out,Below.refl _ _⟩
 case round=>
  obtain ⟨i,hi,hg,rfl,O,hB⟩:=hrel;have h:=hid O;clear O;by_cases K:i<l.length
  ·(have N:(i:Int)<(l.length:Int):=by omega);(have h0:(0:Int)≤(i:Int):=by omega);obtain ⟨_,b,off,A1,cp,rfl,hb,k0,k1,k2,k3,hn⟩:=fe.at_ (HV.out.below hB) i K;have q:=hid (HF.out.out _ _ l[i] hB hn (HD.out _ (List.getElem_mem K)));have HE:=hid (Ah P l i K);generalize l[i]=x at *;clear hn;cases j:P x with
   | true=>have U:=hid (show I=(i:Int) by rw [←h.out,HE.out,j];rfl);(go_wp2_with fail);refine q.out.mono ?_;rw [j];rintro e w1 ⟨rfl,D⟩;have M:=am hB D;clear D q;(go_wp2_with fail);go_ret;exact ⟨by rw [U.out];rfl,M⟩
   | false=>
    have U:=hid (show rk P (l.drop (i+1)) (i+1)=I by rw [←h.out,HE.out,j];rfl);(go_wp2_with fail);refine q.out.mono ?_;rw [j];rintro e w1 ⟨rfl,D⟩;have M:=am hB D;clear D q;(go_wp2_with fail);go_roundg (l.length-(i+1))
    case measure=>omega
    case rel=>exact ⟨i+1,by omega,Nat.le_refl _,by go_num,U.out,M⟩
  ·(have N:¬ (i:Int)<(l.length:Int):=by omega);have J:l.drop i=[]:=List.drop_of_length_le (by omega);have U:=hid (show I = -1 by rw [←h.out,J];rfl);clear J;(go_wp2_with fail);go_ret;exact ⟨by rw [U.out];rfl,hB⟩
theorem nP (d:Nat) (P:Nd→Bool) (f:Fv) (A:Option Addr) (c:Nat) (l:List Nd) (w:World) (I:fe w (.slice A l.length c) l) (hd:∀ n∈l,cq d n) (K:l.length≤1000000000) (J:ln d P f w) :
  Calls Tryz.prog 152 #[.slice A l.length c,.func (.func f.k) #[] f.cap] w fun e w'=>e=.returned (.bool (l.any P))∧Below w.heap.size w w':=by have M:=hid (rl d P f A c l w I hd K J);rw [←tm P l 0];clear I hd J;(go_enter Tryz.func152,Tryz.ntmps152);(go_wp2_with fail);refine M.out.mono ?_;rintro e w1 ⟨rfl,D⟩;(go_wp2_with fail);go_ret;exact ⟨rfl,D⟩
theorem BP (d:Nat) (P:Nd→Bool) (f:Fv) (w0:World) (K:ln d P f w0) (a:Nat) (M:ar w0 a 37 #[.func (.func f.k) #[] f.cap]) :
  ln d (fun n => !P n) ⟨153,#[.pointer (some ⟨a,0,none⟩)]⟩ w0:=by refine ⟨fun a w=>by kernel_rfl,fun w v n hw hv hd=>?_⟩;have j:=K.enter;have J:=hv;obtain ⟨A,cp,rfl,q⟩:=hv.toC;have hB:=(ae w #[.int .i64 n.kind,.string n.text,.slice A n.kids.length cp,.int .i64 n.pos]).1;have D:=hw.alloc hw.size (.cells #[.int .i64 n.kind,.string n.text,.slice A n.kids.length cp,.int .i64 n.pos] 24);have ca:=bc (M.bl D);have O:=hid (K.out _ _ n D (J.below hB) hd);have h:=M.lt;have U:=hw.size;show Calls _ _ _ w fun e w'=>e=.returned (.bool (!P n))∧_;clear K J hv q M;(go_enter Tryz.func153,Tryz.ntmps153);(go_wp2_with fail);refine O.out.mono ?_;rintro e w1 ⟨rfl,I⟩;have N:=am hB I;clear I hB D ca O;(go_wp2_with fail);go_ret;exact ⟨rfl,N⟩
theorem Ep (P:Nd→Bool) (l:List Nd):(!(l.any fun n => !P n))=l.all P:=by
 induction l with
 | nil=>rfl
 | cons n l ih=>rw [List.any_cons,List.all_cons,←ih];cases P n <;> simp
theorem eU (d:Nat) (P:Nd→Bool) (f:Fv) (A:Option Addr) (c:Nat) (l:List Nd) (w:World) (J:fe w (.slice A l.length c) l) (hd:∀ n∈l,cq d n) (N:l.length≤1000000000) (K:ln d P f w) :
  Calls Tryz.prog 119 #[.slice A l.length c,.func (.func f.k) #[] f.cap] w fun e w'=>e=.returned (.bool (l.all P))∧Below w.heap.size w w':=by have hB:=(Below.refl w.heap.size w).alloc (Nat.le_refl _) (.cells #[.func (.func f.k) #[] f.cap] 37);have M:=ar.new w 37 #[.func (.func f.k) #[] f.cap];have O:=hid (nP d (fun n => !P n) ⟨153,#[.pointer (some ⟨w.heap.size,0,none⟩)]⟩ A c l _ (J.below hB) hd N (BP d P f _ (K.below hB) _ M));(have U:∀ a w,(callFunc 153 a).run Tryz.prog w=.ok (.enter 153 a) w:=fun a w=>by kernel_rfl);rw [←Ep P l];clear J hd K M;(go_enter Tryz.func119,Tryz.ntmps119);(go_wp2_with fail);refine O.out.mono ?_;rintro e w1 ⟨rfl,D⟩;have I:=am hB D;clear D hB;(go_wp2_with fail);go_ret;exact ⟨rfl,I⟩
theorem tn (d:Nat) (P:Nd→Bool) (f:Fv) (v:Value) (n:Nd) (w:World) (J:ax w v n) (hd:cq (d+1) n) (K:ln d P f w) :
  Calls Tryz.prog 204 #[v,.func (.func f.k) #[] f.cap] w fun e w'=>e=.returned (.bool (eP P n))∧Below w.heap.size w w':=by
 have I:=J;obtain ⟨A,cp,rfl,M⟩:=J.toC;have hB:=(ae w #[.int .i64 n.kind,.string n.text,.slice A n.kids.length cp,.int .i64 n.pos]).1;have O:=hid (eU d P f A cp n.kids _ (I.below hB).kidsV hd.2 hd.1.1 (K.below hB));(have hE:eP P n=(n.kind==6&&(n.text.toList.isEmpty&&n.kids.all P)):=by unfold eP;rw [af,dU]);rw [hE];clear hE I J M hd K;generalize n.kids.all P=q at *;generalize n.kind=k at *;generalize n.text=t at *;cases h:(k==6) <;> cases U:t.toList.isEmpty;all_goals
  (go_enter Tryz.func204,Tryz.ntmps204);(go_wp2_with fail);try
   refine O.out.mono ?_
   rintro e w1 ⟨rfl,D⟩
   have N:=am hB D
   clear D
   go_wp2_with fail
  go_ret;exact ⟨rfl,by assumption⟩
theorem mN:∀ (l:List (Nd→Bool)) (ns:List Nd),l.length≠ns.length→aH l ns=false
 | [],[],h=>absurd rfl h
 | [],_::_,_=>rfl
 | _::_,[],_=>rfl
 | p::l,n::ns,h=>by rw [aH,mN l ns (by simpa using h)];simp
theorem tq (l:List (Nd→Bool)) (ns:List Nd) (i:Nat) (I:i<l.length) (D:i<ns.length):aH (l.drop i) (ns.drop i)=(l[i] ns[i]&&aH (l.drop (i+1)) (ns.drop (i+1))):=by rw [List.drop_eq_getElem_cons I,List.drop_eq_getElem_cons D,aH]
def cG (w:World) (B:Option Addr) (fs:List (Fv × (Nd→Bool))):Prop:=
 (fs=[]∧B=none)∨∃ b,B=some ⟨b,0,none⟩∧ar w b 37 (fs.map fun x=>Value.func (.func x.1.k) #[] x.1.cap).toArray
theorem cG.below {w w':World} {B:Option Addr} {fs:List (Fv × (Nd→Bool))} (h:cG w B fs) (hb:Below w.heap.size w w'):cG w' B fs:=by
 rcases h with h | ⟨b,e,h⟩
 ·exact .inl h
 ·exact .inr ⟨b,e,h.bl hb⟩
theorem cG.get {w:World} {B:Option Addr} {fs:List (Fv × (Nd→Bool))} (h:cG w B fs) (i:Nat) (D:i<fs.length):∃ b,B=some ⟨b,0,none⟩∧b<w.heap.size∧w.cell? ⟨b,i,none⟩=some (.func (.func fs[i].1.k) #[] fs[i].1.cap):=by
 rcases h with ⟨rfl,_⟩ | ⟨b,e,h⟩
 ·simp at D
 ·refine ⟨b,e,h.lt,?_⟩;rw [h.cell i];simp [D]
theorem bw (d:Nat) (fs:List (Fv × (Nd→Bool))) (k:Int) (v:Value) (n:Nd) (B:Option Addr) (w:World) (m:Nat) (hm:fs.length=m) (ge:m≤9)
  (hv:ax w v n) (hd:cq (d+1) n) (hB:cG w B fs) (hs:∀ x∈fs,ln d x.2 x.1 w) :
  Calls Tryz.prog 154 #[v,.int .i64 k,.slice B m m] w fun e w'=>e=.returned (.bool (bQ k (fs.map (·.2)) n))∧Below w.heap.size w w':=by
 have j:=hv;obtain ⟨A,cp,rfl,hC⟩:=hv.toC;have J:=(ae w #[.int .i64 n.kind,.string n.text,.slice A n.kids.length cp,.int .i64 n.pos]).1;have b1:=(ae w #[.int .i64 n.kind,.string n.text,.slice A n.kids.length cp,.int .i64 n.pos]).2;have HK:=hid (ai.kidsV (j.below J));have HF:=hid (hB.below J);have HS:=hid (fun x hx=>(hs x hx).below J);have HM:=hid hm;have HD:=hid hd.2;have gb:=hd.1.1;have hE:bQ k (fs.map (·.2)) n=(!(n.kind != k)&&(!(!n.text.toList.isEmpty)&&(!((n.kids.length:Int) != (m:Int))&&aH (fs.map (·.2)) n.kids))):=by
  unfold bQ;rw [af];by_cases h3:n.kids.length=m
  ·(have:((n.kids.length:Int) != (m:Int))=false:=by simp [h3]);rw [this];simp [bne,dU]
  ·(have h4:((n.kids.length:Int) != (m:Int))=true:=by simp;omega);rw [h4,mN (fs.map (·.2)) n.kids (by rw [List.length_map];omega)];simp
 rw [hE];clear hE j hv hC hd hB hs hm;generalize q:aH (fs.map (·.2)) n.kids=I;have HI:=hid q;clear q;generalize n.kind=nk at *;generalize n.text=nt at *;generalize n.kids=ks at *;cases h1:(nk != k) with
 | true=>(go_enter Tryz.func154,Tryz.ntmps154);(go_wp2_with fail);go_ret;exact ⟨rfl,J⟩
 | false=>
  cases h2:nt.toList.isEmpty with
  | false=>(go_enter Tryz.func154,Tryz.ntmps154);(go_wp2_with fail);go_ret;exact ⟨rfl,J⟩
  | true=>
   cases h3:((ks.length:Int) != (m:Int)) with
   | true=>(go_enter Tryz.func154,Tryz.ntmps154);(go_wp2_with fail);go_ret;exact ⟨rfl,J⟩
   | false=>
    have M:=hid (show ks.length=m by simp at h3;omega);(go_enter Tryz.func154,Tryz.ntmps154);(go_wp2_with fail);clear h3;go_loopg [7,8,28] m (fun g _ _ u28 wr=>∃ i:Nat,i≤m∧m-i≤g∧u28=.int .i64 (i:Int)∧aH ((fs.map (·.2)).drop i) (ks.drop i)=I∧Below (w.heap.size+1) (w.alloc (.cells #[.int .i64 nk,.string nt,.slice A ks.length cp,.int .i64 n.pos] 24)) wr)
    case atStart=>exact ⟨0,Nat.zero_le _,by omega,rfl,by simpa using HI.out,Below.refl _ _⟩
    case round=>
     obtain ⟨i,hi,hg,rfl,q,hB⟩:=hrel;have HI:=hid q;have u:=J.trans (hB.mono (by omega));have N:=hid (show Below (w.alloc (.cells #[.int .i64 nk,.string nt,.slice A ks.length cp,.int .i64 n.pos] 24)).heap.size (w.alloc (.cells #[.int .i64 nk,.string nt,.slice A ks.length cp,.int .i64 n.pos] 24)) wr by simpa using hB);obtain ⟨x0,x1,x2,x3,_,_,_,_⟩:=ac (b1.below hB (by omega));(have gd:w.heap.size+1≤wr.heap.size:=by have:=hB.size;simpa using this);clear q hB;by_cases D:i<m
     ·(have h:(i:Int)<(m:Int):=by omega);(have h0:(0:Int)≤(i:Int):=by omega);(have ga:(i:Int)<(ks.length:Int):=by rw [M.out];omega);obtain ⟨_,b,off,A1,gh,rfl,hb,k0,k1,k2,k3,hn⟩:=fe.at_ (HK.out.below N.out) i (by rw [M.out];exact D);obtain ⟨bf,rfl,gg,f0⟩:=(HF.out.below N.out).get i (by rw [HM.out];exact D);have U:=HS.out (fs[i]'(by rw [HM.out];exact D)) (List.getElem_mem _);have he:=U.enter;have HC:=hid (U.out _ _ _ N.out hn (HD.out _ (List.getElem_mem _)));have HE:=hid (tq (fs.map (·.2)) ks i (by rw [List.length_map,HM.out];exact D) (by rw [M.out];exact D));simp only [List.getElem_map] at HE;generalize fs[i]'(by rw [HM.out];exact D)=ff at *;generalize ks[i]'(by rw [M.out];exact D)=x at *;clear hn U;cases hP:ff.2 x with
      | true=>
       have HX:=hid (show aH ((fs.map (·.2)).drop (i+1)) (ks.drop (i+1))=I by rw [←HI.out,HE.out,hP];rfl);(go_wp2_with fail);refine HC.out.mono ?_;rw [hP];rintro e w1 ⟨rfl,K⟩;have O:=am N.out K;clear K HC;(go_wp2_with fail);go_roundg (m-(i+1))
       case measure=>omega
       case rel=>exact ⟨i+1,by omega,Nat.le_refl _,by go_num,HX.out,by simpa using O⟩
      | false=>have HX:=hid (show I=false by rw [←HI.out,HE.out,hP];rfl);(go_wp2_with fail);refine HC.out.mono ?_;rw [hP];rintro e w1 ⟨rfl,K⟩;have O:=am u K;clear K HC;(go_wp2_with fail);go_ret;exact ⟨by rw [HX.out];rfl,O⟩
     ·(have h:¬ (i:Int)<(m:Int):=by omega);have h4:ks.drop i=[]:=List.drop_of_length_le (by rw [M.out];omega);have h5:(fs.map (·.2)).drop i=[]:=List.drop_of_length_le (by rw [List.length_map,HM.out];omega);have HX:=hid (show I=true by rw [←HI.out,h4,h5];rfl);clear h4 h5;(go_wp2_with fail);go_ret;exact ⟨by rw [HX.out];rfl,u⟩
theorem bq (s:ByteArray) (l:List UInt8):decide (s=⟨l.toArray⟩)=(s.toList==l):=by rw [←cU,ByteArray.toList_eq ⟨l.toArray⟩]
theorem cO (s sub:ByteArray) (w:World) (I:bR w) (hs:s.size≤2000000000) :
  Calls Tryz.prog 78 #[.string s,.string sub] w fun e w'=>e=.returned (.bool (Lib.contains s.data.toList sub.data.toList))∧w=w':=by obtain ⟨m,D⟩:=I;exact (Any.strings_Contains Tryz.laysContains s sub m w (by omega) D).mono fun _ _ h=>⟨h.1,h.2.symm⟩
theorem Er (s sep:ByteArray) (w:World) (I:bR w) (hs:s.size≤2000000000) :
  Calls Tryz.prog 215 #[.string s,.string sep] w fun e w'=>e=.returned (.tuple #[.string ⟨(Lib.cut s.data.toList sep.data.toList).1.toArray⟩,.string ⟨(Lib.cut s.data.toList sep.data.toList).2.1.toArray⟩,.bool (Lib.cut s.data.toList sep.data.toList).2.2])∧Below w.heap.size w w':=by obtain ⟨m,D⟩:=I;exact (Any.strings_Cut Tryz.laysCut s sep m w (by omega) D).mono fun _ _ h=>⟨h.1,by obtain ⟨n,e⟩:=h.2;subst e;exact aN (Below.refl _ _) n⟩
theorem nQ (s:ByteArray) (w:World):Calls Tryz.prog 118 #[.string s] w fun e w'=>e=.returned (.bool (aw s))∧Below w.heap.size w w':=by
 (have hE:aw s=(decide ((s.size:Int)≤100)&&cz s):=by unfold aw;congr 1;rw [decide_eq_decide];omega);rw [hE];have I:=hid (tl s w);generalize cz s=q at *;clear hE;cases J:decide ((s.size:Int)≤100);all_goals
  (go_enter Tryz.func118,Tryz.ntmps118);(go_wp2_with fail);try
   refine I.out.mono ?_
   rintro e w1 ⟨rfl,D⟩
   go_wp2_with fail
  go_ret;exact ⟨rfl,by first | assumption | exact Below.refl _ _⟩
theorem sn (s:ByteArray) (w:World):Calls Tryz.prog 212 #[.string s] w fun e w'=>e=.returned (.bool (bA s))∧Below w.heap.size w w':=by (have hE:bA s=(aw s && !(s.toList==[95])):=by unfold bA;rw [←bq s [95],←decide_not]);rw [hE];have I:=hid (nQ s w);generalize aw s=q at *;clear hE;cases q <;> cases J:(s.toList==[95]);all_goals (go_enter Tryz.func212,Tryz.ntmps212);(go_wp2_with fail);refine I.out.mono ?_;rintro e w1 ⟨rfl,D⟩;(go_wp2_with fail);go_ret;exact ⟨rfl,D⟩
theorem iC {P:ByteArray→Bool} {f:FuncId} (D:∀ a w,(callFunc f a).run Tryz.prog w=.ok (.enter f a) w) (w0:World)
  (h:∀ (s:ByteArray) (w:World),Below w0.heap.size w0 w→s.size≤1000000000→Calls Tryz.prog f #[.string s] w fun e w'=>e=.returned (.bool (P s))∧Below w.heap.size w w'):ti P ⟨f,#[]⟩ w0:=
 ⟨D,fun w s hb hs=>h s w hb hs⟩
theorem fS (w0:World):ti aw ⟨118,#[]⟩ w0:=iC (fun a w=>by kernel_rfl) w0 fun s w _ _=>nQ s w
theorem BQ (w0:World):ti bA ⟨212,#[]⟩ w0:=iC (fun a w=>by kernel_rfl) w0 fun s w _ _=>sn s w
theorem Ai (w0:World):ti dL ⟨163,#[]⟩ w0:=iC (fun a w=>by kernel_rfl) w0 fun s w _ _=>by (have hE:dL s=s.toList.isEmpty:=by unfold dL;rw [af]);rw [hE];cases D:s.toList.isEmpty;all_goals (go_enter Tryz.func163,Tryz.ntmps163);(go_wp2_with fail);go_ret;exact ⟨rfl,Below.refl _ _⟩
theorem BR (w0:World):ti eQ ⟨209,#[]⟩ w0:=iC (fun a w=>by kernel_rfl) w0 fun s w _ _=>by (have hE:eQ s=(s.toList.isEmpty||s.toList==[126]):=by unfold eQ;rw [af,bq s [126]]);rw [hE];cases I:s.toList.isEmpty <;> cases D:(s.toList==[126]);all_goals (go_enter Tryz.func209,Tryz.ntmps209);(go_wp2_with fail);go_ret;exact ⟨rfl,Below.refl _ _⟩
theorem BS (w0:World):ti db ⟨165,#[]⟩ w0:=iC (fun a w=>by kernel_rfl) w0 fun s w _ _=>by (have hE:db s=decide ((s.size:Int)≤1000):=by unfold db;rw [decide_eq_decide];omega);rw [hE];(go_enter Tryz.func165,Tryz.ntmps165);(go_wp2_with fail);go_ret;exact ⟨rfl,Below.refl _ _⟩
theorem BT (w0:World):ti d6 ⟨166,#[]⟩ w0:=iC (fun a w=>by kernel_rfl) w0 fun s w _ _=>by (have hE:d6 s=(s.toList==[45]||s.toList==[33]):=by unfold d6;rw [bq s [45],bq s [33]]);rw [hE];cases I:(s.toList==[45]) <;> cases D:(s.toList==[33]);all_goals (go_enter Tryz.func166,Tryz.ntmps166);(go_wp2_with fail);go_ret;exact ⟨rfl,Below.refl _ _⟩
theorem Es (w0:World):ti eZ ⟨213,#[]⟩ w0:=iC (fun a w=>by kernel_rfl) w0 fun s w _ _=>by (have hE:eZ s=(s.toList==[43,43]||s.toList==[45,45]):=by unfold eZ;rw [bq s [43,43],bq s [45,45]]);rw [hE];cases I:(s.toList==[43,43]) <;> cases D:(s.toList==[45,45]);all_goals (go_enter Tryz.func213,Tryz.ntmps213);(go_wp2_with fail);go_ret;exact ⟨rfl,Below.refl _ _⟩
theorem Aj (x:ByteArray) (w:World) (D:bR w) :
  Calls Tryz.prog 78 #[.string (⟨#[32,43,32,45,32,42,32,47,32,37,32,61,61,32,33,61,32,60,32,60,61,32,62,32,62,61,32,38,38,32,124,124,32]⟩:BA),.string x] w fun e w'=>e=.returned (.bool (Lib.contains (32::eq) x.data.toList))∧w=w':=
 cO _ x w D (Nat.le_trans (show _≤100 by decide +kernel) (by omega))
theorem Ak (w0:World) (N:bR w0):ti dp ⟨167,#[]⟩ w0:=iC (fun a w=>by kernel_rfl) w0 fun s w hb hs=>by
 have K:=hid (N.below hb);(have hE:dp s=(!s.toList.isEmpty&&(!(Lib.contains s.data.toList [32])&&Lib.contains (32::eq) (32::(s.data.toList++[32])))):=by unfold dp;rw [af,←decide_not]);rw [hE];clear hE;have I:=hid (cO s ⟨#[32]⟩ w K.out (by omega));(have J:((⟨#[32]⟩++s++⟨#[32]⟩:ByteArray)).data.toList=32::(s.data.toList++[32]):=by simp [ByteArray.data_append]);have D:=Aj (⟨#[32]⟩++s++⟨#[32]⟩) w K.out;rw [J] at D;generalize Lib.contains (32::eq) (32::(s.data.toList++[32]))=q2 at *;have O:=hid D;rw [show (⟨#[32]⟩:BA).data.toList=[32] from rfl] at I;clear D J;cases M:Lib.contains s.data.toList [32] <;> cases hE:s.toList.isEmpty;all_goals
  (go_enter Tryz.func167,Tryz.ntmps167);(go_wp2_with fail);try
   refine I.out.mono ?_
   rw [M]
   rintro e w1 ⟨rfl,rfl⟩
   go_wp2_with fail
  try
   refine O.out.mono ?_
   rintro e w1 ⟨rfl,rfl⟩
   go_wp2_with fail
  go_ret;exact ⟨rfl,Below.refl _ _⟩
theorem Al (w0:World) (h:bR w0):ti be ⟨175,#[]⟩ w0:=iC (fun a w=>by kernel_rfl) w0 fun s w hb hs=>by
 have u:=hid (h.below hb);have N:=hid (Er s ⟨#[44]⟩ w u.out (by omega));(have hE:be s=(s.toList.isEmpty||(((eK s).2.2&&(aw ⟨(eK s).1.toArray⟩&&bA ⟨(eK s).2.1.toArray⟩))||(!(eK s).2.2&&bA ⟨(eK s).1.toArray⟩))):=by unfold be;rw [af]);rw [hE];clear hE;rw [show Lib.cut s.data.toList (⟨#[44]⟩:BA).data.toList=eK s from rfl] at N;generalize eK s=q at *;obtain ⟨I,M,O⟩:=q;simp only at *;have U:=hid (fun w=>nQ ⟨I.toArray⟩ w);have K:=hid (fun w=>sn ⟨I.toArray⟩ w);have J:=hid (fun w=>sn ⟨M.toArray⟩ w);generalize aw ⟨I.toArray⟩=n1 at *;generalize bA ⟨I.toArray⟩=b1 at *;generalize bA ⟨M.toArray⟩=b2 at *;cases j:s.toList.isEmpty <;> cases O <;> cases n1 <;> cases b1 <;> cases b2;all_goals
  (go_enter Tryz.func175,Tryz.ntmps175);(go_wp2_with fail);refine N.out.mono ?_;rintro e w1 ⟨rfl,hB⟩;go_wp2_with (first
   | (go_at_call 118;with_reducible refine (U.out _).mono ?_;rintro e w2 ⟨rfl,D⟩;replace hB:=am hB D;clear D)
   | (go_at_call 212;with_reducible refine (J.out _).mono ?_;rintro e w2 ⟨rfl,D⟩;replace hB:=am hB D;clear D)
   | (go_at_call 212;with_reducible refine (K.out _).mono ?_;rintro e w2 ⟨rfl,D⟩;replace hB:=am hB D;clear D))
  go_ret;exact ⟨rfl,hB⟩
theorem oz (l:List UInt8):l.all cY=true↔∀ j,j<l.length→ao ((l.getD j 0).toNat:Int)=true:=by
 rw [List.all_eq_true];constructor
 ·intro h j D;have:=h l[j] (List.getElem_mem _);rw [dq] at this;simpa [D] using this
 ·intro h x hx;obtain ⟨j,D,rfl⟩:=List.mem_iff_getElem.1 hx;have:=h j D;rw [dq];simpa [D] using this
theorem Et {s:ByteArray} (h:0<s.size):decide (s.data.toList.head? ≠ some 48)=((s[0].toNat:Int) != 48):=by (have e:s.data.toList.head? = some s[0]:=by rw [List.head?_eq_getElem?,List.getElem?_eq_getElem (by simpa using h)];rfl);rw [e,Bool.eq_iff_iff];simp only [ne_eq,Option.some.injEq,decide_not,Bool.not_eq_true',decide_eq_false_iff_not,bne_iff_ne];rw [←UInt8.toNat_inj];simp only [UInt8.reduceToNat];omega
theorem Am (s:ByteArray) (w:World):Calls Tryz.prog 164 #[.string s] w fun e w'=>e=.returned (.bool (cA s))∧Below w.heap.size w w':=by
 have hT:cA s=(s.data.toList.all cY&&(s.toList==[48]||(!s.toList.isEmpty&&(decide ((s.size:Int)≤200)&&decide (s.data.toList.head? ≠ some 48))))):=by
  unfold cA;rw [af,bq s [48]];congr 3
  ·simp
  ·congr 1;rw [decide_eq_decide];omega
 have hN:=oz s.data.toList;rw [hT];generalize s.data.toList.all cY=nc at *;have HN:=hid hN;clear hT hN;have i1:=World.iter_heap w s 0;have i2:Below w.heap.size w (w.iter s 0):=(Below.refl _ w).alloc (Nat.le_refl _) _;(go_enter Tryz.func164,Tryz.ntmps164);(go_wp2_with fail);go_loopg [4,7,8] s.size (fun g _ _ _ wr=>∃ i:Nat,i≤s.size∧s.size-i≤g∧wr.heap[w.heap.size]? = some (.stringIter s i)∧Below w.heap.size w wr∧(∀ j,j<i→ao ((s.data.toList.getD j 0).toNat:Int)=true))
 case atStart=>exact ⟨0,Nat.zero_le _,by omega,i1,i2,fun j hj=>by omega⟩
 case round=>
  clear i1 i2;obtain ⟨i,hi,hg,hit,hB,U⟩:=hrel;have gb:=hid hit;have HA:=hid U;clear hit U;by_cases J:i<s.size
  ·have hw:=mM s i J;have u:=lo s i J;have D:=fun ty=>run_next_any_at (P:=Tryz.prog) wr w.heap.size s i ty gb.out J;generalize hb:(s.data.toList.getD i 0).toNat=b at *;generalize hd:Utf8.decode s i=q at *;obtain ⟨r,k⟩:=q;simp only at hw D u;have O:ao (r:Int)=ao (b:Int)∧(ao (r:Int)=true→k=1):=by
    rcases u with ⟨e,_⟩ | ⟨h1,h2⟩
    ·injection e with e1 e2;subst e1 e2;exact ⟨rfl,fun _=>rfl⟩
    ·rw [dC (by omega),dC (by omega)];exact ⟨rfl,by simp⟩
   have I:=hid O;have gd:=hid hb;have j1:=iterAt_heap wr w.heap.size s i (i+k) gb.out;have j2:Below w.heap.size w (wr.iterAt w.heap.size s (i+k)):=b8 hB (Nat.le_refl _);generalize wr.iterAt w.heap.size s (i+k)=W1 at D j1 j2;have J1:=hid j1;clear O u j1 hd hb;have N:ao (r:Int)=false→nc=false:=by
    intro hf;cases hn:nc with
    | false=>rfl
    | true=>have:=(HN.out.1 hn) i (by simpa using J);rw [gd.out,←I.out.1,hf] at this;cases this
   have K:=hid N;have ge:ao (r:Int)=true→∀ j,j<i+k→ao ((s.data.toList.getD j 0).toNat:Int)=true:=by
    intro hf j hj;have hk:=I.out.2 hf;by_cases e:j=i
    ·subst e;rw [gd.out,←I.out.1,hf]
    ·exact HA.out j (by omega)
   have gi:=hid ge;clear N ge I gd HA;unfold ao at K gi;cases h1:decide ((r:Int)<48) with
   | true=>have h:=hid (K.out (by (have:decide (48≤(r:Int))=false:=by simp at h1 ⊢;omega);rw [this];rfl));(go_wp2_with fail);go_ret;exact ⟨by rw [h.out];rfl,j2⟩
   | false=>
    (have ga:decide (48≤(r:Int))=true:=by simp at h1 ⊢;omega);cases h2:decide (57<(r:Int)) with
    | true=>have h:=hid (K.out (by (have:decide ((r:Int)≤57)=false:=by simp at h2 ⊢;omega);rw [this];simp));clear ga;(go_wp2_with fail);go_ret;exact ⟨by rw [h.out];rfl,j2⟩
    | false=>
     have gh:=hid (gi.out (by (have:decide ((r:Int)≤57)=true:=by simp at h2 ⊢;omega);rw [ga,this];rfl));clear ga;(go_wp2_with fail);go_roundg (s.size-(i+k))
     case measure=>omega
     case rel=>exact ⟨i+k,hw.2,Nat.le_refl _,J1.out,j2,gh.out⟩
  ·(have gg:i=s.size:=by omega);have D:=fun ty=>run_next_end_at (P:=Tryz.prog) wr w.heap.size s i ty gb.out J;have h:=hid (show nc=true from HN.out.2 fun j hj=>HA.out j (by simp at hj;omega));clear gg;cases M:(s.toList==[48]) with
   | true=>(go_wp2_with fail);go_ret;exact ⟨by rw [h.out,M];rfl,hB⟩
   | false=>
    cases hE:s.toList.isEmpty with
    | true=>(go_wp2_with fail);go_ret;exact ⟨by rw [h.out,M,hE];rfl,hB⟩
    | false=>
     cases hL:decide ((s.size:Int)≤200) with
     | false=>(go_wp2_with fail);go_ret;exact ⟨by rw [h.out,M,hE,hL];rfl,hB⟩
     | true=>
      have hp:0<s.size:=by
       rcases Nat.eq_zero_or_pos s.size with h0 | h0
       ·(have:s.toList=[]:=by rw [ByteArray.toList_eq];exact List.eq_nil_of_length_eq_zero h0);rw [this] at hE;cases hE
       ·exact h0
      (have gj:(0:Int)<(s.size:Int):=by omega);(go_wp2_with fail);go_ret;refine ⟨?_,hB⟩;rw [h.out,M,hE,hL,Et hp];rfl
theorem BU (w0:World):ti cA ⟨164,#[]⟩ w0:=iC (fun a w=>by kernel_rfl) w0 fun s w _ _=>Am s w
end
end Go.Proofs.YtiebcdeafofgdaaGreatDoor
