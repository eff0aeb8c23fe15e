/-
  Parts of the proof: Tspec Dplain Zord. By an AI agent.
-/
import Derived.Test.YtiebcdeafofgdaaGreatDoorJ00
import Derived.Lib.IndexMore
import Derived.OrdersHeld
import Derived.Deep.RegionHeld
namespace Go.Proofs.YtiebcdeafofgdaaGreatDoor
section
def sq (c:UInt8):Bool:=c==95||((decide (97≤c)&&decide (c≤122))||(decide (65≤c)&&decide (c≤90)))
def mP (c:UInt8):Bool:=decide (48≤c)&&decide (c≤57)
def EM:List ByteArray:=[(⟨#[98,114,101,97,107]⟩:BA),(⟨#[99,111,110,116,105,110,117,101]⟩:BA),(⟨#[101,108,115,101]⟩:BA),(⟨#[102,111,114]⟩:BA),(⟨#[102,117,110,99]⟩:BA),(⟨#[105,102]⟩:BA),(⟨#[105,109,112,111,114,116]⟩:BA),(⟨#[105,110,116,101,114,102,97,99,101]⟩:BA),(⟨#[112,97,99,107,97,103,101]⟩:BA),(⟨#[114,97,110,103,101]⟩:BA),(⟨#[114,101,116,117,114,110]⟩:BA),(⟨#[115,116,114,117,99,116]⟩:BA),(⟨#[116,121,112,101]⟩:BA),(⟨#[118,97,114]⟩:BA)]
def EN:List ByteArray:=[(⟨#[99,97,115,101]⟩:BA),(⟨#[99,104,97,110]⟩:BA),(⟨#[99,111,110,115,116]⟩:BA),(⟨#[100,101,102,97,117,108,116]⟩:BA),(⟨#[100,101,102,101,114]⟩:BA),(⟨#[102,97,108,108,116,104,114,111,117,103,104]⟩:BA),(⟨#[103,111]⟩:BA),(⟨#[103,111,116,111]⟩:BA),(⟨#[109,97,112]⟩:BA),(⟨#[115,101,108,101,99,116]⟩:BA),(⟨#[115,119,105,116,99,104]⟩:BA)]
def ci (s:ByteArray):Int:=if EM.any (fun x=>decide (s=x)) then 1 else if EN.any (fun x=>decide (s=x)) then 2 else 0
def lq:List UInt8→Bool
 | []=>true
 | c::r=>sq c&&r.all fun c=>sq c||mP c
def ox (s:ByteArray):Bool:=lq s.data.toList&&(decide (s≠(⟨#[]⟩:BA))&&decide (ci s=0))
def bj (s:ByteArray):Bool:=decide (s.size≤100)&&ox s
def eE (s:ByteArray):Bool:=bj s&&decide (s≠(⟨#[95]⟩:BA))
def mQ (s:ByteArray):Bool:=s.data.toList.all mP&&(decide (s=(⟨#[48]⟩:BA))||(decide (s≠(⟨#[]⟩:BA))&&(decide (s.size≤200)&&decide (s.data.toList.head? ≠ some 48))))
def aS (n:Nd):Bool:=decide (n.kind=0)&&(decide (n.text=(⟨#[]⟩:BA))&&decide (n.kids.length=0))
def d7:List (Nd→Bool)→List Nd→Bool
 | [],[]=>true
 | p::ps,n::ns=>p n&&d7 ps ns
 | _,_=>false
def ew (k:Int) (l:List (Nd→Bool)) (n:Nd):Bool:=decide (n.kind=k)&&(decide (n.text=(⟨#[]⟩:BA))&&d7 l n.kids)
def aA (so:ByteArray→Bool) (n:Nd):Nd:=if so n.text then .mk n.kind (⟨#[]⟩:BA) n.kids n.pos else .mk 37 (⟨#[]⟩:BA) [] 0
def lY (so:Nd→Bool) (n:Nd):Bool:=decide (n.kind=6)&&(decide (n.text=(⟨#[]⟩:BA))&&n.kids.all so)
def fm (a b:Nd→Bool) (n:Nd):Bool:=a n||b n
structure eF where
 typ:Nd→Bool
 expr:Nd→Bool
 block:Nd→Bool
 stmt:Nd→Bool
 ifS:Nd→Bool
section
variable (F:eF)
def o0 (so:ByteArray→Bool) (p:Nd):Bool:=ew 8 [F.typ] (aA so p)
def uj (so:ByteArray→Bool) (n:Nd):Bool:=ew 12 [lY (o0 F so),fm aS F.typ] n
def iT (n:Nd):Bool:=uj F bj n
def o7 (s:ByteArray):Bool:=decide (s=(⟨#[]⟩:BA))
def sh (n:Nd):Bool:=
 if n.kind=10 then bj n.text&&n.kids.all F.typ
 else if n.kind=11 then ew 11 [F.typ] n
 else if n.kind=12 then uj F o7 n
 else false
def nH (s:ByteArray):Bool:=decide (s=(⟨#[]⟩:BA))||decide (s=(⟨#[126]⟩:BA))
def sN (t:Nd):Bool:=ew 15 [F.typ] (aA nH t)
def ip (n:Nd):Bool:=decide (n.kind=14)&&(decide (n.text=(⟨#[]⟩:BA))&&(decide (0<n.kids.length)&&n.kids.all (sN F)))
def o8 (f:Nd):Bool:=ew 9 [F.typ] (aA bj f)
def iy (n:Nd):Bool:=decide (n.kind=13)&&(decide (n.text=(⟨#[]⟩:BA))&&n.kids.all (o8 F))
def la (c:Nd):Bool:=decide (c.kind=10)&&F.typ c
def pz (p:Nd):Bool:=ew 7 [fm (la F) (ip F)] (aA bj p)
def fO (n:Nd):Bool:=lY (pz F) n
def si (n:Nd):Bool:=ew 5 [fm aS F.typ,fm aS F.expr] (aA bj n)&&(!(aS (n.kids.getD 0 bJ)) || !(aS (n.kids.getD 1 bJ)))
def lZ (n:Nd):Bool:=
 if n.kind=2 then ew 2 [fO F,iT F,F.block] (aA bj n)
 else if n.kind=3 then ew 3 [fO F,fm (fm F.typ (iy F)) (ip F)] (aA bj n)
 else if n.kind=4 then ew 4 [fO F,F.typ] (aA bj n)
 else si F n
def pA:List UInt8:=((⟨#[43,32,45,32,42,32,47,32,37,32,61,61,32,33,61,32,60,32,60,61,32,62,32,62,61,32,38,38,32,124,124,32]⟩:BA).data.toList)
def lc (s:ByteArray):Bool:=decide (s≠(⟨#[]⟩:BA))&&(!(Lib.contains s.data.toList [32])&&Lib.contains (32::pA) (32::(s.data.toList++[32])))
def mR (s:ByteArray):Bool:=decide (s=(⟨#[45]⟩:BA))||decide (s=(⟨#[33]⟩:BA))
def iJ (s:ByteArray):Bool:=decide (s.size≤1000)
def nI (k:Nd):Bool:=F.expr k||(decide (k.kind≠10)&&F.typ k)
def ex (n:Nd):Bool:=
 if n.kind=16 then ew 16 [] (aA mQ n)
 else if n.kind=17 then ew 17 [] (aA iJ n)
 else if n.kind=18 then ew 18 [] (aA bj n)
 else if n.kind=19 then ew 19 [F.expr] (aA mR n)
 else if n.kind=20 then ew 20 [F.expr,F.expr] (aA lc n)
 else if n.kind=21 then decide (n.text=(⟨#[]⟩:BA))&&(decide (0<n.kids.length)&&n.kids.all F.expr)
 else if n.kind=22 then decide (n.text=(⟨#[]⟩:BA))&&(decide (1<n.kids.length)&&(F.expr (n.kids.getD 0 bJ)&&(n.kids.drop 1).all (nI F)))
 else if n.kind=23 then ew 23 [F.expr] (aA bj n)
 else if n.kind=24 then decide (n.text=(⟨#[]⟩:BA))&&(decide (0<n.kids.length)&&(decide ((n.kids.getD 0 bJ).kind≠12)&&(F.typ (n.kids.getD 0 bJ)&&(n.kids.drop 1).all F.expr)))
 else ew 25 [iT F,F.block] n
def sj (s:ByteArray):List UInt8 × List UInt8 × Bool:=Lib.cut s.data.toList [44]
def ld (s:ByteArray):Bool:=
 decide (s=(⟨#[]⟩:BA))||(((sj s).2.2&&(bj ⟨(sj s).1.toArray⟩&&eE ⟨(sj s).2.1.toArray⟩))||(!(sj s).2.2&&eE ⟨(sj s).1.toArray⟩))
def oQ (s:ByteArray):Bool:=decide (s=(⟨#[43,43]⟩:BA))||decide (s=(⟨#[45,45]⟩:BA))
def mS (n:Nd):Bool:=ew 28 [F.expr] (aA oQ n)
def mT (n:Nd):Bool:=ew 27 [F.expr,F.expr] n
def nJ (x:Nd):Bool:=decide (x.kind=21)&&F.expr x
def l5 (n:Nd):Bool:=ew 29 [nJ F] n
def fP (n:Nd):Bool:=ew 26 [F.expr] (aA eE n)
def lE (n:Nd):Bool:=decide (n.kind=36)&&(decide (n.text=(⟨#[]⟩:BA))&&n.kids.all F.stmt)
def IZ (n:Nd):Bool:=ew 30 [F.expr,F.block,fm (fm aS F.block) F.ifS] n
def fz (n:Nd):Bool:=
 if n.kind=5 then si F n
 else if n.kind=26 then fP F n
 else if n.kind=27 then mT F n
 else if n.kind=28 then mS F n
 else if n.kind=29 then l5 F n
 else if n.kind=30 then IZ F n
 else if n.kind=31 then ew 31 [fm (fm aS (fP F)) (fm (mT F) (mS F)),fm aS F.expr,fm (fm aS (mT F)) (fm (mS F) (l5 F)),F.block] n
 else if n.kind=32 then ew 32 [F.expr,F.block] (aA ld n)
 else if n.kind=33 then ew 33 [fm aS F.expr] n
 else if n.kind=34∨n.kind=35 then ew n.kind [] n
 else lE F n
def pB (n:Nd):Bool:=decide (n.kind=1)&&(bj n.text&&n.kids.all (lZ F))
end
def lU:Nat→eF
 | 0=>⟨fun _=>false,fun _=>false,fun _=>false,fun _=>false,fun _=>false⟩
 | g+1=>⟨sh (lU g),ex (lU g),lE (lU g),fz (lU g),IZ (lU g)⟩
def et:Nat→Nd→Prop
 | 0,_=>False
 | g+1,n=>(n.kids.length≤1000000000∧n.text.size≤1000000000)∧∀ k∈n.kids,et g k
theorem et.succ:∀ {g:Nat} {n:Nd},et g n→et (g+1) n
 | 0,_,h=>h.elim
 | _+1,_,h=>⟨h.1,fun k hk=>et.succ (h.2 k hk)⟩
theorem et.kid {g:Nat} {n k:Nd} (h:et (g+1) n) (D:k∈n.kids):et g k:=h.2 k D
theorem et.len {g:Nat} {n:Nd} (h:et g n):n.kids.length≤1000000000:=by
 cases g with
 | zero=>exact h.elim
 | succ g=>exact h.1.1
theorem et.txt {g:Nat} {n:Nd} (h:et g n):n.text.size≤1000000000:=by
 cases g with
 | zero=>exact h.elim
 | succ g=>exact h.1.2
theorem et.named {g:Nat} {n:Nd} {so:ByteArray→Bool} (h:et g n):et g (aA so n):=by
 cases g with
 | zero=>exact h.elim
 | succ g=>
  unfold aA;split
  ·exact ⟨⟨h.1.1,by simp [ByteArray.size]⟩,h.2⟩
  ·exact ⟨⟨by simp,by simp [ByteArray.size]⟩,fun k hk=>by simp at hk⟩
def oy:Nat→Nd→Prop
 | 0,_=>True
 | g+1,n=>(n.kids.length≤1000000000∧n.text.size≤1000000000)∧∀ k∈n.kids,oy g k
def bg:Nat→Nd→List Nat
 | 0,_=>[]
 | l+1,n=>(l+1)::n.kids.flatMap (bg l)
def sO (l:Nat) (n:Nd):Nat:=(bg l n).length
def dQ (n:Nd):Nat:=(bg 101 n).foldl (fun d l=>max d (102-l)) 0
theorem mm (l:List Nat):∀ d m,l.foldl (fun d l=>max d (102-l)) d≤m↔d≤m∧∀ x∈l,102-x≤m:=by
 induction l with
 | nil=>intro d m;simp
 | cons x l ih=>
  intro d m;rw [List.foldl_cons,ih,Nat.max_le];constructor
  ·rintro ⟨⟨I,D⟩,J⟩;refine ⟨I,fun y hy=>?_⟩;rcases List.mem_cons.1 hy with rfl | hy
   ·exact D
   ·exact J y hy
  ·rintro ⟨I,D⟩;exact ⟨⟨I,D x List.mem_cons_self⟩,fun y hy=>D y (List.mem_cons_of_mem _ hy)⟩
theorem uC:∀ (g:Nat) (n:Nd),oy g n→(∀ x∈bg (g+1) n,2≤x)→et g n
 | 0,n,_,h=>by have:=h 1 (by simp [bg]);omega
 | g + 1,_,D,h=>⟨D.1,fun k I=>uC g k (D.2 k I) fun x J=>h x (by
     rw [bg];exact List.mem_cons_of_mem _ (List.mem_flatMap.2 ⟨k,I,J⟩))⟩
theorem mU {n:Nd} (D:oy 100 n) (h:dQ n≤100):et 100 n:=by refine uC 100 n D fun x hx=>?_;have:=((mm _ _ _).1 h).2 x hx;omega
def cV (n:Nd):Bool:=decide (dQ n≤100)&&(decide (sO 100 n≤65536)&&pB (lU 100) n)
def aa (s:ByteArray) (i:Nat):Nat:=(s.data.toList.getD i 0).toNat
theorem df (s:ByteArray) (i:Nat):aa s i<256:=UInt8.toNat_lt _
theorem sQ (s:ByteArray) (j:Nat):(s.get! j).toNat=aa s j:=by obtain ⟨bs⟩:=s;show (bs[j]!).toNat=(bs.toList.getD j 0).toNat;rw [Array.getElem!_eq_getD,List.getD_eq_getElem?_getD,Array.getD_eq_getD_getElem?,Array.getElem?_toList];rfl
def un (y0 y1 y2 y3:Nat) (c1 c2 c3:Prop) [Decidable c1] [Decidable c2] [Decidable c3]:Nat × Nat:=
 if y0<128 then (y0,1)
 else if y0 / 32=6∧c1∧y1 / 64=2 then (if 128≤y0 % 32 * 64+y1 % 64 then (y0 % 32 * 64+y1 % 64,2) else (65533,1))
 else if y0 / 16=14∧(c1∧y1 / 64=2)∧(c2∧y2 / 64=2) then (if 2048≤y0 % 16 * 4096+y1 % 64 * 64+y2 % 64∧Utf8.valid ((y0 % 16 * 4096+y1 % 64 * 64+y2 % 64:Nat):Int)=true then (y0 % 16 * 4096+y1 % 64 * 64+y2 % 64,3) else (65533,1))
 else if y0 / 8=30∧(c1∧y1 / 64=2)∧(c2∧y2 / 64=2)∧(c3∧y3 / 64=2) then (if 65536≤y0 % 8 * 262144+y1 % 64 * 4096+y2 % 64 * 64+y3 % 64∧Utf8.valid ((y0 % 8 * 262144+y1 % 64 * 4096+y2 % 64 * 64+y3 % 64:Nat):Int)=true then (y0 % 8 * 262144+y1 % 64 * 4096+y2 % 64 * 64+y3 % 64,4) else (65533,1))
 else (65533,1)
theorem eQ (s:ByteArray) (i:Nat):Utf8.decode s i=un (aa s i) (aa s (i+1)) (aa s (i+2)) (aa s (i+3)) (i+1<s.size) (i+2<s.size) (i+3<s.size):=by unfold un;simp only [Utf8.decode,sQ,Nat.add_zero,Bool.and_eq_true,decide_eq_true_eq,beq_iff_eq,ge_iff_le,Utf8.runeError,and_assoc]
theorem d8 (s:ByteArray) (i:Nat) (h:aa s i<128):Utf8.decode s i=(aa s i,1):=by rw [eQ,un,if_pos h]
theorem d5 (s:ByteArray) (i:Nat) (J:i<s.size) (h:128≤aa s i) :
  128≤(Utf8.decode s i).1∧1≤(Utf8.decode s i).2∧i+(Utf8.decode s i).2≤s.size∧∀ m,m<(Utf8.decode s i).2→128≤aa s (i+m):=by
 (have one:∀ m,m<1→128≤aa s (i+m):=fun m D=>by (obtain rfl:m=0:=by omega);exact h);rw [eQ,un,if_neg (by omega)];split
 ·rename_i I;split
  ·refine ⟨by omega,by omega,by simp only;omega,fun m D=>?_⟩;have D:m<2:=D;rcases (by omega:m=0∨m=1) with rfl | rfl
   ·exact h
   ·omega
  ·exact ⟨by omega,by omega,by simp only;omega,one⟩
 ·split
  ·rename_i I;split
   ·refine ⟨by omega,by omega,by simp only;omega,fun m D=>?_⟩;have D:m<3:=D;rcases (by omega:m=0∨m=1∨m=2) with rfl | rfl | rfl
    ·exact h
    ·omega
    ·omega
   ·exact ⟨by omega,by omega,by simp only;omega,one⟩
  ·split
   ·rename_i I;split
    ·refine ⟨by omega,by omega,by simp only;omega,fun m D=>?_⟩;have D:m<4:=D;rcases (by omega:m=0∨m=1∨m=2∨m=3) with rfl | rfl | rfl | rfl
     ·exact h
     ·omega
     ·omega
     ·omega
    ·exact ⟨by omega,by omega,by simp only;omega,one⟩
   ·exact ⟨by omega,by omega,by simp only;omega,one⟩
theorem eH (s:ByteArray) (i j:Nat):aa (s.extract i s.size) j=aa s (i+j):=by unfold aa;rw [ByteArray.data_extract,Array.toList_extract,List.extract_eq_take_drop,List.take_of_length_le (by rw [List.length_drop];exact Nat.le_of_eq rfl),List.getD_eq_getElem?_getD,List.getElem?_drop,←List.getD_eq_getElem?_getD]
theorem yZ (s:ByteArray) (i j:Nat):Utf8.decode (s.extract i s.size) j=Utf8.decode s (i+j):=by (have D:(s.extract i s.size).size=s.size-i:=by rw [ByteArray.size_extract];omega);rw [eQ,eQ,eH,eH,eH,eH,D];(have M:(j+1<s.size-i)=(i+j+1<s.size):=by rw [eq_iff_iff];omega);(have J:(j+2<s.size-i)=(i+j+2<s.size):=by rw [eq_iff_iff];omega);(have I:(j+3<s.size-i)=(i+j+3<s.size):=by rw [eq_iff_iff];omega);simp only [M,J,I,Nat.add_assoc]
def aR (en:Nat):List UInt8→Bool→Nat→Option Nat
 | [],_,_=>none
 | c::r,true,k=>if c.toNat=10 then none else aR en r false (k+1)
 | c::r,false,k=>
  if c.toNat=92∧en=34 then aR en r true (k+1)
  else if c.toNat=en then some k
  else if c.toNat=10∧en≠96 then none
  else aR en r false (k+1)
theorem nL (en:Nat) (I:en<128):∀ (n:Nat) (l:List UInt8) (b:Bool) (k:Nat),n≤l.length→(∀ m,m<n→128≤(l.getD m 0).toNat)→aR en l b k=aR en (l.drop n) (b&&n==0) (k+n)
 | 0,l,b,k,_,_=>by simp
 | n+1,[],b,k,h,_=>by simp at h
 | n+1,c::r,b,k,h,D=>by
  have hc:128≤c.toNat:=D 0 (by omega);have ih:=nL en I n r false (k+1) (by simpa using h) (fun m hm=>by simpa using D (m+1) (by omega));have e:aR en (c::r) b k=aR en r false (k+1):=by
   cases b with
   | true=>rw [aR,if_neg (by omega)]
   | false=>rw [aR,if_neg (by omega),if_neg (by omega),if_neg (by omega)]
  rw [e,ih];simp only [List.drop_succ_cons,Bool.false_and];rw [show k+1+n=k+(n+1) by omega,show (b&&(n+1==0))=false by simp]
section
variable {P:Program} {ops:Array Oper} {Q:Exit→Act→World→Prop} {md:Region.Mode} {S:World→Prop} {L:Nat}
def pX (md:Region.Mode) (ops:Array Oper) (listed:Array Bool):Prop:=
 ∀ (j:Nat) (o:Oper),ops[j]? = some o→listed.getD j false=true→∀ e∈o.after,Region.binds md e=true→listed.getD e.on false=true
def ye (md:Region.Mode) (ops:Array Oper) (listed:Array Bool):Bool:=
 (List.range ops.size).all fun j => !listed.getD j false||((ops[j]?).map (·.after.all fun e => !Region.binds md e||listed.getD e.on false)).getD true
theorem D2 {listed:Array Bool} (h:ye md ops listed=true):pX md ops listed:=by intro j o ho J e he hb;unfold ye at h;rw [List.all_eq_true] at h;have D:=h j (List.mem_range.2 (Array.getElem?_eq_some_iff.1 ho).1);rw [ho,J] at D;simp only [Bool.not_true,Bool.false_or,Option.map_some,Option.getD_some,Array.all_eq_true_iff_forall_mem] at D;have I:=D e he;rw [hb] at I;simpa using I
theorem Cg {listed:Array Bool} (h:pX md ops listed) {i:Nat} (M:i∈Region.ready md ops listed):pX md ops (listed.setIfInBounds i true):=by
 intro j o ho hj e he hb;by_cases I:i=j
 ·subst I;obtain ⟨_,o',D,J⟩:=mem_ready.1 M;rw [ho] at D;injection D with D;subst D;exact getD_set_true (J e he hb)
 ·rw [getD_set_ne false I] at hj;exact getD_set_true (h j o ho hj e he hb)
def AG (md:Region.Mode) (ops:Array Oper):List Nat→Bool
 | a::b::r=>((ops[b]?).map (·.after.any fun e=>Region.binds md e&&e.on==a)).getD false&&AG md ops (b::r)
 | _=>true
theorem r5 {listed:Array Bool} (hc:pX md ops listed) (y:L∈Region.ready md ops listed):∀ (p:List Nat) (a:Nat),AG md ops (a::p)=true→p.getLast? = some L→listed.getD a false=true
 | [],_,_,h=>by simp at h
 | b::r,a,N,O=>by
  unfold AG at N;rw [Bool.and_eq_true] at N;obtain ⟨D,z⟩:=N;cases M:ops[b]? with
  | none=>rw [M] at D;simp at D
  | some o=>
   rw [M] at D;simp only [Option.map_some,Option.getD_some] at D;rw [Array.any_eq_true'] at D;obtain ⟨e,q,D⟩:=D;rw [Bool.and_eq_true,beq_iff_eq] at D;obtain ⟨hb,rfl⟩:=D;cases r with
   | nil=>simp at O;subst O;obtain ⟨_,o',I,J⟩:=mem_ready.1 y;rw [M] at I;injection I with I;subst I;exact J e q hb
   | cons c r'=>have U:=r5 hc y (c::r') b z (by simpa using O);exact hc b o M U e q hb
def lK (P:Program) (md:Region.Mode) (ops:Array Oper) (Q:Exit→Act→World→Prop) (S:World→Prop) (L:Nat):Nat→Array Bool→Act→World→Prop
 | 0,listed,a,w=>Region.ready md ops listed=[]∧Q .normal a w
 | fuel+1,listed,a,w=>
  (Region.ready md ops listed=[]→Q .normal a w) ∧
  ∀ i∈Region.ready md ops listed,wpOp P ops Q i (fun a' w'=>(S w'∨i=L)∧lK P md ops Q S L fuel (listed.setIfInBounds i true) a' w') a w
theorem tA:∀ (fuel:Nat) (listed:Array Bool) (a:Act) (w:World),lK P md ops Q S L fuel listed a w→wpAny P md ops Q fuel listed a w
 | 0,_,_,_,h=>h
 | fuel+1,_,_,_,h=>⟨h.1,fun i hi=>wpOp_mono (fun a' w' h'=>tA fuel _ a' w' h'.2) (h.2 i hi)⟩
theorem yg {i:Nat} {oi:Oper} {v:Value} (hi:ops[i]? = some oi) (M:∀ (j:Nat) (o:Oper) cs b,ops[j]? = some o→o.op≠.select cs b)
  (hQ:∀ c a w,Q (.panic c) (a.put oi.dst v) w→Q (.panic c) a w) (p:List Nat) (hp:AG md ops (i::p)=true) (hl:p.getLast? = some L) :
  ∀ (fuel:Nat) (listed:Array Bool) (a:Act) (w:World),pX md ops listed →
    (∀ j oj,ops[j]? = some oj→j≠i→listed.getD j true=false→(∀ e∈oj.after,Region.binds md e=true→e.on≠i)→oi.apart ops oj=true) →
    i∈Region.ready md ops listed→YieldsIf P ops S oi v a→S w →
    lK P md ops Q S L fuel (listed.setIfInBounds i true) (a.put oi.dst v) w→lK P md ops Q S L (fuel+1) listed a w:=by
 intro fuel;induction fuel with
 | zero=>
  intro listed a w _ _ O hy hS H;refine ⟨fun h=>(by rw [h] at O;cases O),fun j hj=>?_⟩;by_cases D:j=i
  ·subst D;exact hy.wpOp hi hS ⟨.inl hS,H⟩
  ·have:=ready_mono hj D;rw [H.1] at this;cases this
 | succ fuel ih=>
  intro listed a w hcl I O hy hS H;refine ⟨fun h=>(by rw [h] at O;cases O),fun j hj=>?_⟩;by_cases D:j=i
  ·subst D;exact hy.wpOp hi hS ⟨.inl hS,H⟩
  ·have h1:=H.2 j (ready_mono hj D);obtain ⟨N,oj,U,gb⟩:=mem_ready.1 hj;have q:listed.getD i false=false:=by
    have h0:=(mem_ready.1 O).1;rcases Nat.lt_or_ge i listed.size with h' | h'
    ·simp [h'] at h0 ⊢;exact h0
    ·simp [Array.getElem?_eq_none h']
   (have ga:j≠L:=by rintro rfl;rw [r5 hcl hj p i hp hl] at q;cases q);(have y:∀ e∈oj.after,Region.binds md e=true→e.on≠i:=fun e he hb heq=>by have h1:=gb e he hb;rw [heq,q] at h1;cases h1);have h2:=wpOp_putIf U (I j oj U D N y) (fun cs b=>M i oi cs b hi) (fun cs b=>M j oj cs b U) hQ hy h1;have J:∀ k ok,ops[k]? = some ok→k≠i→(listed.setIfInBounds j true).getD k true=false →
     (∀ e∈ok.after,Region.binds md e=true→e.on≠i)→oi.apart ops ok=true:=fun k ok hk hki hun hno=>by
    refine I k ok hk hki ?_ hno;by_cases z:j=k
    ·subst z;exact N
    ·rw [getD_set_ne true z] at hun;exact hun
   refine wpOp_mono (fun a' w' h3=>⟨.inl (h3.2.1.resolve_right ga),ih (listed.setIfInBounds j true) a' w' (Cg hcl hj) J (ready_mono O (Ne.symm D)) h3.1 (h3.2.1.resolve_right ga) ?_⟩) h2;rw [Array.setIfInBounds_comm _ _ D];exact h3.2.2
theorem bl {i:Nat} {oi:Oper} {v:Value} {fuel:Nat} {listed:Array Bool} {a:Act} {w:World} (p:List Nat) (D:ops[i]? = some oi)
  (hc:ye md ops listed=true) (M:AG md ops (i::p)=true) (N:p.getLast? = some L)
  (hs:Region.noSelect ops=true) (O:Region.free md ops listed i=true) (J:(Region.ready md ops listed).contains i=true)
  (q:∀ c a w,Q (.panic c) (a.put oi.dst v) w→Q (.panic c) a w) (I:YieldsIf P ops S oi v a) (U:S w)
  (h:lK P md ops Q S L fuel (listed.setIfInBounds i true) (a.put oi.dst v) w):lK P md ops Q S L (fuel+1) listed a w:=
 yg D (Region.noSelect_spec hs) q p M N fuel listed a w (D2 hc) (Region.free_spec D O) (by simpa using J) I U h
def cO (P:Program) (md:Region.Mode) (ops:Array Oper) (Q:Exit→Act→World→Prop) (S:World→Prop) (L:Nat) (fuel:Nat) (listed:Array Bool) (a:Act) (w:World) (rs:List Nat):Prop:=
 ∀ i∈rs,wpOp P ops Q i (fun a' w'=>(S w'∨i=L)∧lK P md ops Q S L fuel (listed.setIfInBounds i true) a' w') a w
theorem cO.nil {fuel:Nat} {listed:Array Bool} {a:Act} {w:World} : cO P md ops Q S L fuel listed a w []:=fun _ h=>by cases h
theorem cO.cons {fuel:Nat} {listed:Array Bool} {a:Act} {w:World} {i:Nat} {o:Oper} {rs:List Nat} (I:ops[i]? = some o)
  (h:∀ K':Act→World→Prop,Shut (∀ a w,(S w∨i=L)→(S w∨i=L→lK P md ops Q S L fuel (listed.setIfInBounds i true) a w)→K' a w)→if Region.wanted o (yielded ops a.tmps)=true then Oper.wp P o a w K' Q else K' (a.put o.dst undef) w)
  (hs:cO P md ops Q S L fuel listed a w rs):cO P md ops Q S L fuel listed a w (i::rs):=fun j hj=>by
 rcases List.mem_cons.1 hj with rfl | hj
 ·exact wpOp_step I (fun K' hK=>h K' (fun a w D hW=>hK a w ⟨D,hW D⟩))
 ·exact hs j hj
theorem aP {rs:List Nat} {fuel:Nat} {listed:Array Bool} {a:Act} {w:World} (I:Region.ready md ops listed=rs) (D:rs≠[])
  (h:cO P md ops Q S L fuel listed a w rs):lK P md ops Q S L (fuel+1) listed a w:=
 ⟨fun J=>absurd (I▸J) D,I▸h⟩
theorem iN {listed:Array Bool} {a:Act} {w:World} (D:Region.ready md ops listed=[]) (h:Q .normal a w) :
  ∀ fuel,lK P md ops Q S L fuel listed a w
 | 0=>⟨D,h⟩
 | _+1=>⟨fun _=>h,by rw [D];simp⟩
theorem iO (L:Nat) {id:Nat} {a:Act} {w:World} (D:P.follows .mixedOrders=true) (I:S w.drew)
  (h:S w.drew→lK P .any ops Q S L ops.size (Array.replicate ops.size false) a w.drew):(Code.region id ops true).wp P Q a w:=
 wp_region_any D (tA _ _ _ _ (h I))
end
end
end Go.Proofs.YtiebcdeafofgdaaGreatDoor
