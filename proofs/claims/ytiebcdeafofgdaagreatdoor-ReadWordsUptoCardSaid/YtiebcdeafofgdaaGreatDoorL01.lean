/-
  Parts of the proof: Tspec Dplain Zord Rmem Die Rsmall. By an AI agent.
-/
import Derived.Test.YtiebcdeafofgdaaGreatDoorL00
import Derived.Test.YtiebcdeafofgdaaGreatDoorProg
import Derived.Lib.IndexMore
import Derived.OrdersHeld
import Derived.Deep.RegionHeld
import Derived.WalkKit
import Derived.Lib.Hide
import Derived.WalkLawsBesides
import Derived.WalkSpells
import Derived.RegionTactic
import Derived.Deep.QuietTactic
import Derived.BigQuiet
import Derived.Deep.DeepCutAuto
import Derived.Deep.CutBlock
import Derived.Deep.RegionHeld3
import Derived.Deep.RegionWith
import Derived.StillTailTactics
import Derived.Outline
import Derived.Deep.DrawnRows
import Derived.Deep.Draws
import Derived.Deep.RegionHeld2
set_option maxRecDepth 100000
set_option maxHeartbeats 8000000
namespace Go.Proofs.YtiebcdeafofgdaaGreatDoor
section
def fo (c:UInt8):Bool:=c==95||((decide (97≤c)&&decide (c≤122))||(decide (65≤c)&&decide (c≤90)))
def cY (c:UInt8):Bool:=decide (48≤c)&&decide (c≤57)
def mK:List ByteArray:=[(⟨#[98,114,101,97,107]⟩:BA),(⟨#[99,111,110,116,105,110,117,101]⟩:BA),(⟨#[101,108,115,101]⟩:BA),(⟨#[102,111,114]⟩:BA),(⟨#[102,117,110,99]⟩:BA),(⟨#[105,102]⟩:BA),(⟨#[105,109,112,111,114,116]⟩:BA),(⟨#[105,110,116,101,114,102,97,99,101]⟩:BA),(⟨#[112,97,99,107,97,103,101]⟩:BA),(⟨#[114,97,110,103,101]⟩:BA),(⟨#[114,101,116,117,114,110]⟩:BA),(⟨#[115,116,114,117,99,116]⟩:BA),(⟨#[116,121,112,101]⟩:BA),(⟨#[118,97,114]⟩:BA)]
def mL:List ByteArray:=[(⟨#[99,97,115,101]⟩:BA),(⟨#[99,104,97,110]⟩:BA),(⟨#[99,111,110,115,116]⟩:BA),(⟨#[100,101,102,97,117,108,116]⟩:BA),(⟨#[100,101,102,101,114]⟩:BA),(⟨#[102,97,108,108,116,104,114,111,117,103,104]⟩:BA),(⟨#[103,111]⟩:BA),(⟨#[103,111,116,111]⟩:BA),(⟨#[109,97,112]⟩:BA),(⟨#[115,101,108,101,99,116]⟩:BA),(⟨#[115,119,105,116,99,104]⟩:BA)]
def aX (s:ByteArray):Int:=if mK.any (fun x=>decide (s=x)) then 1 else if mL.any (fun x=>decide (s=x)) then 2 else 0
def bL:List UInt8→Bool
 | []=>true
 | c::r=>fo c&&r.all fun c=>fo c||cY c
def cz (s:ByteArray):Bool:=bL s.data.toList&&(decide (s≠(⟨#[]⟩:BA))&&decide (aX s=0))
def aw (s:ByteArray):Bool:=decide (s.size≤100)&&cz s
def bA (s:ByteArray):Bool:=aw s&&decide (s≠(⟨#[95]⟩:BA))
def cA (s:ByteArray):Bool:=s.data.toList.all cY&&(decide (s=(⟨#[48]⟩:BA))||(decide (s≠(⟨#[]⟩:BA))&&(decide (s.size≤200)&&decide (s.data.toList.head? ≠ some 48))))
def ag (n:Nd):Bool:=decide (n.kind=0)&&(decide (n.text=(⟨#[]⟩:BA))&&decide (n.kids.length=0))
def aH:List (Nd→Bool)→List Nd→Bool
 | [],[]=>true
 | p::ps,n::ns=>p n&&aH ps ns
 | _,_=>false
def bQ (k:Int) (l:List (Nd→Bool)) (n:Nd):Bool:=decide (n.kind=k)&&(decide (n.text=(⟨#[]⟩:BA))&&aH l n.kids)
def aq (so:ByteArray→Bool) (n:Nd):Nd:=if so n.text then .mk n.kind (⟨#[]⟩:BA) n.kids n.pos else .mk 37 (⟨#[]⟩:BA) [] 0
def eP (so:Nd→Bool) (n:Nd):Bool:=decide (n.kind=6)&&(decide (n.text=(⟨#[]⟩:BA))&&n.kids.all so)
def bI (a b:Nd→Bool) (n:Nd):Bool:=a n||b n
structure bj where
 typ:Nd→Bool
 expr:Nd→Bool
 block:Nd→Bool
 stmt:Nd→Bool
 ifS:Nd→Bool
section
variable (F:bj)
def dI (so:ByteArray→Bool) (p:Nd):Bool:=bQ 8 [F.typ] (aq so p)
def ep (so:ByteArray→Bool) (n:Nd):Bool:=bQ 12 [eP (dI F so),bI ag F.typ] n
def dn (n:Nd):Bool:=ep F aw n
def dL (s:ByteArray):Bool:=decide (s=(⟨#[]⟩:BA))
def dg (n:Nd):Bool:=
 if n.kind=10 then aw n.text&&n.kids.all F.typ
 else if n.kind=11 then bQ 11 [F.typ] n
 else if n.kind=12 then ep F dL n
 else false
def eQ (s:ByteArray):Bool:=decide (s=(⟨#[]⟩:BA))||decide (s=(⟨#[126]⟩:BA))
def f5 (t:Nd):Bool:=bQ 15 [F.typ] (aq eQ t)
def aV (n:Nd):Bool:=decide (n.kind=14)&&(decide (n.text=(⟨#[]⟩:BA))&&(decide (0<n.kids.length)&&n.kids.all (f5 F)))
def eR (f:Nd):Bool:=bQ 9 [F.typ] (aq aw f)
def aZ (n:Nd):Bool:=decide (n.kind=13)&&(decide (n.text=(⟨#[]⟩:BA))&&n.kids.all (eR F))
def ey (c:Nd):Bool:=decide (c.kind=10)&&F.typ c
def eS (p:Nd):Bool:=bQ 7 [bI (ey F) (aV F)] (aq aw p)
def aR (n:Nd):Bool:=eP (eS F) n
def fd (n:Nd):Bool:=bQ 5 [bI ag F.typ,bI ag F.expr] (aq aw n)&&(!(ag (n.kids.getD 0 eG)) || !(ag (n.kids.getD 1 eG)))
def a8 (n:Nd):Bool:=
 if n.kind=2 then bQ 2 [aR F,dn F,F.block] (aq aw n)
 else if n.kind=3 then bQ 3 [aR F,bI (bI F.typ (aZ F)) (aV F)] (aq aw n)
 else if n.kind=4 then bQ 4 [aR F,F.typ] (aq aw n)
 else fd F n
def eq:List UInt8:=((⟨#[43,32,45,32,42,32,47,32,37,32,61,61,32,33,61,32,60,32,60,61,32,62,32,62,61,32,38,38,32,124,124,32]⟩:BA).data.toList)
def dp (s:ByteArray):Bool:=decide (s≠(⟨#[]⟩:BA))&&(!(Lib.contains s.data.toList [32])&&Lib.contains (32::eq) (32::(s.data.toList++[32])))
def d6 (s:ByteArray):Bool:=decide (s=(⟨#[45]⟩:BA))||decide (s=(⟨#[33]⟩:BA))
def db (s:ByteArray):Bool:=decide (s.size≤1000)
def cN (k:Nd):Bool:=F.expr k||(decide (k.kind≠10)&&F.typ k)
def ay (n:Nd):Bool:=
 if n.kind=16 then bQ 16 [] (aq cA n)
 else if n.kind=17 then bQ 17 [] (aq db n)
 else if n.kind=18 then bQ 18 [] (aq aw n)
 else if n.kind=19 then bQ 19 [F.expr] (aq d6 n)
 else if n.kind=20 then bQ 20 [F.expr,F.expr] (aq dp n)
 else if n.kind=21 then decide (n.text=(⟨#[]⟩:BA))&&(decide (0<n.kids.length)&&n.kids.all F.expr)
 else if n.kind=22 then decide (n.text=(⟨#[]⟩:BA))&&(decide (1<n.kids.length)&&(F.expr (n.kids.getD 0 eG)&&(n.kids.drop 1).all (cN F)))
 else if n.kind=23 then bQ 23 [F.expr] (aq aw n)
 else if n.kind=24 then decide (n.text=(⟨#[]⟩:BA))&&(decide (0<n.kids.length)&&(decide ((n.kids.getD 0 eG).kind≠12)&&(F.typ (n.kids.getD 0 eG)&&(n.kids.drop 1).all F.expr)))
 else bQ 25 [dn F,F.block] n
def eK (s:ByteArray):List UInt8 × List UInt8 × Bool:=Lib.cut s.data.toList [44]
def be (s:ByteArray):Bool:=
 decide (s=(⟨#[]⟩:BA))||(((eK s).2.2&&(aw ⟨(eK s).1.toArray⟩&&bA ⟨(eK s).2.1.toArray⟩))||(!(eK s).2.2&&bA ⟨(eK s).1.toArray⟩))
def eZ (s:ByteArray):Bool:=decide (s=(⟨#[43,43]⟩:BA))||decide (s=(⟨#[45,45]⟩:BA))
def dS (n:Nd):Bool:=bQ 28 [F.expr] (aq eZ n)
def dT (n:Nd):Bool:=bQ 27 [F.expr,F.expr] n
def fN (x:Nd):Bool:=decide (x.kind=21)&&F.expr x
def dJ (n:Nd):Bool:=bQ 29 [fN F] n
def cB (n:Nd):Bool:=bQ 26 [F.expr] (aq bA n)
def bm (n:Nd):Bool:=decide (n.kind=36)&&(decide (n.text=(⟨#[]⟩:BA))&&n.kids.all F.stmt)
def uL (n:Nd):Bool:=bQ 30 [F.expr,F.block,bI (bI ag F.block) F.ifS] n
def av (n:Nd):Bool:=
 if n.kind=5 then fd F n
 else if n.kind=26 then cB F n
 else if n.kind=27 then dT F n
 else if n.kind=28 then dS F n
 else if n.kind=29 then dJ F n
 else if n.kind=30 then uL F n
 else if n.kind=31 then bQ 31 [bI (bI ag (cB F)) (bI (dT F) (dS F)),bI ag F.expr,bI (bI ag (dT F)) (bI (dS F) (dJ F)),F.block] n
 else if n.kind=32 then bQ 32 [F.expr,F.block] (aq be n)
 else if n.kind=33 then bQ 33 [bI ag F.expr] n
 else if n.kind=34∨n.kind=35 then bQ n.kind [] n
 else bm F n
def eT (n:Nd):Bool:=decide (n.kind=1)&&(aw n.text&&n.kids.all (a8 F))
end
def aa:Nat→bj
 | 0=>⟨fun _=>false,fun _=>false,fun _=>false,fun _=>false,fun _=>false⟩
 | g+1=>⟨dg (aa g),ay (aa g),bm (aa g),av (aa g),uL (aa g)⟩
def cq:Nat→Nd→Prop
 | 0,_=>False
 | g+1,n=>(n.kids.length≤1000000000∧n.text.size≤1000000000)∧∀ k∈n.kids,cq g k
theorem cq.succ:∀ {g:Nat} {n:Nd},cq g n→cq (g+1) n
 | 0,_,h=>h.elim
 | _+1,_,h=>⟨h.1,fun k hk=>cq.succ (h.2 k hk)⟩
theorem cq.kid {g:Nat} {n k:Nd} (h:cq (g+1) n) (D:k∈n.kids):cq g k:=h.2 k D
theorem cq.len {g:Nat} {n:Nd} (h:cq g n):n.kids.length≤1000000000:=by
 cases g with
 | zero=>exact h.elim
 | succ g=>exact h.1.1
theorem cq.txt {g:Nat} {n:Nd} (h:cq g n):n.text.size≤1000000000:=by
 cases g with
 | zero=>exact h.elim
 | succ g=>exact h.1.2
theorem cq.named {g:Nat} {n:Nd} {so:ByteArray→Bool} (h:cq g n):cq g (aq so n):=by
 cases g with
 | zero=>exact h.elim
 | succ g=>
  unfold aq;split
  ·exact ⟨⟨h.1.1,by simp [ByteArray.size]⟩,h.2⟩
  ·exact ⟨⟨by simp,by simp [ByteArray.size]⟩,fun k hk=>by simp at hk⟩
def nN:Nat→Nd→Prop
 | 0,_=>True
 | g+1,n=>(n.kids.length≤1000000000∧n.text.size≤1000000000)∧∀ k∈n.kids,nN g k
def aF:Nat→Nd→List Nat
 | 0,_=>[]
 | l+1,n=>(l+1)::n.kids.flatMap (aF l)
def yt (l:Nat) (n:Nd):Nat:=(aF l n).length
def d7 (n:Nd):Nat:=(aF 101 n).foldl (fun d l=>max d (102-l)) 0
theorem iB (l:List Nat):∀ d m,l.foldl (fun d l=>max d (102-l)) d≤m↔d≤m∧∀ x∈l,102-x≤m:=by
 induction l with
 | nil=>intro d m;simp
 | cons x l ih=>
  intro d m;rw [List.foldl_cons,ih,Nat.max_le];constructor
  ·rintro ⟨⟨I,D⟩,J⟩;refine ⟨I,fun y hy=>?_⟩;rcases List.mem_cons.1 hy with rfl | hy
   ·exact D
   ·exact J y hy
  ·rintro ⟨I,D⟩;exact ⟨⟨I,D x List.mem_cons_self⟩,fun y hy=>D y (List.mem_cons_of_mem _ hy)⟩
theorem rF:∀ (g:Nat) (n:Nd),nN g n→(∀ x∈aF (g+1) n,2≤x)→cq g n
 | 0,n,_,h=>by have:=h 1 (by simp [aF]);omega
 | g + 1,_,D,h=>⟨D.1,fun k I=>rF g k (D.2 k I) fun x J=>h x (by
     rw [aF];exact List.mem_cons_of_mem _ (List.mem_flatMap.2 ⟨k,I,J⟩))⟩
theorem lm {n:Nd} (D:nN 100 n) (h:d7 n≤100):cq 100 n:=by refine rF 100 n D fun x hx=>?_;have:=((iB _ _ _).1 h).2 x hx;omega
def bv (n:Nd):Bool:=decide (d7 n≤100)&&(decide (yt 100 n≤65536)&&eT (aa 100) n)
def ab (s:ByteArray) (i:Nat):Nat:=(s.data.toList.getD i 0).toNat
theorem eH (s:ByteArray) (i:Nat):ab s i<256:=UInt8.toNat_lt _
theorem pm (s:ByteArray) (j:Nat):(s.get! j).toNat=ab s j:=by obtain ⟨bs⟩:=s;show (bs[j]!).toNat=(bs.toList.getD j 0).toNat;rw [Array.getElem!_eq_getD,List.getD_eq_getElem?_getD,Array.getD_eq_getD_getElem?,Array.getElem?_toList];rfl
def BV (y0 y1 y2 y3:Nat) (c1 c2 c3:Prop) [Decidable c1] [Decidable c2] [Decidable c3]:Nat × Nat:=
 if y0<128 then (y0,1)
 else if y0 / 32=6∧c1∧y1 / 64=2 then (if 128≤y0 % 32 * 64+y1 % 64 then (y0 % 32 * 64+y1 % 64,2) else (65533,1))
 else if y0 / 16=14∧(c1∧y1 / 64=2)∧(c2∧y2 / 64=2) then (if 2048≤y0 % 16 * 4096+y1 % 64 * 64+y2 % 64∧Utf8.valid ((y0 % 16 * 4096+y1 % 64 * 64+y2 % 64:Nat):Int)=true then (y0 % 16 * 4096+y1 % 64 * 64+y2 % 64,3) else (65533,1))
 else if y0 / 8=30∧(c1∧y1 / 64=2)∧(c2∧y2 / 64=2)∧(c3∧y3 / 64=2) then (if 65536≤y0 % 8 * 262144+y1 % 64 * 4096+y2 % 64 * 64+y3 % 64∧Utf8.valid ((y0 % 8 * 262144+y1 % 64 * 4096+y2 % 64 * 64+y3 % 64:Nat):Int)=true then (y0 % 8 * 262144+y1 % 64 * 4096+y2 % 64 * 64+y3 % 64,4) else (65533,1))
 else (65533,1)
theorem iW (s:ByteArray) (i:Nat):Utf8.decode s i=BV (ab s i) (ab s (i+1)) (ab s (i+2)) (ab s (i+3)) (i+1<s.size) (i+2<s.size) (i+3<s.size):=by unfold BV;simp only [Utf8.decode,pm,Nat.add_zero,Bool.and_eq_true,decide_eq_true_eq,beq_iff_eq,ge_iff_le,Utf8.runeError,and_assoc]
theorem f7 (s:ByteArray) (i:Nat) (h:ab s i<128):Utf8.decode s i=(ab s i,1):=by rw [iW,BV,if_pos h]
theorem fy (s:ByteArray) (i:Nat) (J:i<s.size) (h:128≤ab s i) :
  128≤(Utf8.decode s i).1∧1≤(Utf8.decode s i).2∧i+(Utf8.decode s i).2≤s.size∧∀ m,m<(Utf8.decode s i).2→128≤ab s (i+m):=by
 (have one:∀ m,m<1→128≤ab s (i+m):=fun m D=>by (obtain rfl:m=0:=by omega);exact h);rw [iW,BV,if_neg (by omega)];split
 ·rename_i I;split
  ·refine ⟨by omega,by omega,by simp only;omega,fun m D=>?_⟩;have D:m<2:=D;rcases (by omega:m=0∨m=1) with rfl | rfl
   ·exact h
   ·omega
  ·exact ⟨by omega,by omega,by simp only;omega,one⟩
 ·split
  ·rename_i I;split
   ·refine ⟨by omega,by omega,by simp only;omega,fun m D=>?_⟩;have D:m<3:=D;rcases (by omega:m=0∨m=1∨m=2) with rfl | rfl | rfl
    ·exact h
    ·omega
    ·omega
   ·exact ⟨by omega,by omega,by simp only;omega,one⟩
  ·split
   ·rename_i I;split
    ·refine ⟨by omega,by omega,by simp only;omega,fun m D=>?_⟩;have D:m<4:=D;rcases (by omega:m=0∨m=1∨m=2∨m=3) with rfl | rfl | rfl | rfl
     ·exact h
     ·omega
     ·omega
     ·omega
    ·exact ⟨by omega,by omega,by simp only;omega,one⟩
   ·exact ⟨by omega,by omega,by simp only;omega,one⟩
theorem dM (s:ByteArray) (i j:Nat):ab (s.extract i s.size) j=ab s (i+j):=by unfold ab;rw [ByteArray.data_extract,Array.toList_extract,List.extract_eq_take_drop,List.take_of_length_le (by rw [List.length_drop];exact Nat.le_of_eq rfl),List.getD_eq_getElem?_getD,List.getElem?_drop,←List.getD_eq_getElem?_getD]
theorem tr (s:ByteArray) (i j:Nat):Utf8.decode (s.extract i s.size) j=Utf8.decode s (i+j):=by (have D:(s.extract i s.size).size=s.size-i:=by rw [ByteArray.size_extract];omega);rw [iW,iW,dM,dM,dM,dM,D];(have K:(j+1<s.size-i)=(i+j+1<s.size):=by rw [eq_iff_iff];omega);(have J:(j+2<s.size-i)=(i+j+2<s.size):=by rw [eq_iff_iff];omega);(have I:(j+3<s.size-i)=(i+j+3<s.size):=by rw [eq_iff_iff];omega);simp only [K,J,I,Nat.add_assoc]
def aO (en:Nat):List UInt8→Bool→Nat→Option Nat
 | [],_,_=>none
 | c::r,true,k=>if c.toNat=10 then none else aO en r false (k+1)
 | c::r,false,k=>
  if c.toNat=92∧en=34 then aO en r true (k+1)
  else if c.toNat=en then some k
  else if c.toNat=10∧en≠96 then none
  else aO en r false (k+1)
theorem lP (en:Nat) (I:en<128):∀ (n:Nat) (l:List UInt8) (b:Bool) (k:Nat),n≤l.length→(∀ m,m<n→128≤(l.getD m 0).toNat)→aO en l b k=aO en (l.drop n) (b&&n==0) (k+n)
 | 0,l,b,k,_,_=>by simp
 | n+1,[],b,k,h,_=>by simp at h
 | n+1,c::r,b,k,h,D=>by
  have J:128≤c.toNat:=D 0 (by omega);have ih:=lP en I n r false (k+1) (by simpa using h) (fun m hm=>by simpa using D (m+1) (by omega));have e:aO en (c::r) b k=aO en r false (k+1):=by
   cases b with
   | true=>rw [aO,if_neg (by omega)]
   | false=>rw [aO,if_neg (by omega),if_neg (by omega),if_neg (by omega)]
  rw [e,ih];simp only [List.drop_succ_cons,Bool.false_and];rw [show k+1+n=k+(n+1) by omega,show (b&&(n+1==0))=false by simp]
section
variable {P:Program} {ops:Array Oper} {Q:Exit→Act→World→Prop} {md:Region.Mode} {S:World→Prop} {L:Nat}
def ny (md:Region.Mode) (ops:Array Oper) (listed:Array Bool):Prop:=
 ∀ (j:Nat) (o:Oper),ops[j]? = some o→listed.getD j false=true→∀ e∈o.after,Region.binds md e=true→listed.getD e.on false=true
def oW (md:Region.Mode) (ops:Array Oper) (listed:Array Bool):Bool:=
 (List.range ops.size).all fun j => !listed.getD j false||((ops[j]?).map (·.after.all fun e => !Region.binds md e||listed.getD e.on false)).getD true
theorem AM {listed:Array Bool} (h:oW md ops listed=true):ny md ops listed:=by intro j o ho J e he hb;unfold oW at h;rw [List.all_eq_true] at h;have D:=h j (List.mem_range.2 (Array.getElem?_eq_some_iff.1 ho).1);rw [ho,J] at D;simp only [Bool.not_true,Bool.false_or,Option.map_some,Option.getD_some,Array.all_eq_true_iff_forall_mem] at D;have I:=D e he;rw [hb] at I;simpa using I
theorem wt {listed:Array Bool} (h:ny md ops listed) {i:Nat} (K:i∈Region.ready md ops listed):ny md ops (listed.setIfInBounds i true):=by
 intro j o ho hj e he hb;by_cases I:i=j
 ·subst I;obtain ⟨_,o',D,J⟩:=mem_ready.1 K;rw [ho] at D;injection D with D;subst D;exact getD_set_true (J e he hb)
 ·rw [getD_set_ne false I] at hj;exact getD_set_true (h j o ho hj e he hb)
def rV (md:Region.Mode) (ops:Array Oper):List Nat→Bool
 | a::b::r=>((ops[b]?).map (·.after.any fun e=>Region.binds md e&&e.on==a)).getD false&&rV md ops (b::r)
 | _=>true
theorem oH {listed:Array Bool} (j:ny md ops listed) (q:L∈Region.ready md ops listed):∀ (p:List Nat) (a:Nat),rV md ops (a::p)=true→p.getLast? = some L→listed.getD a false=true
 | [],_,_,h=>by simp at h
 | b::r,a,M,N=>by
  unfold rV at M;rw [Bool.and_eq_true] at M;obtain ⟨D,u⟩:=M;cases K:ops[b]? with
  | none=>rw [K] at D;simp at D
  | some o=>
   rw [K] at D;simp only [Option.map_some,Option.getD_some] at D;rw [Array.any_eq_true'] at D;obtain ⟨e,U,D⟩:=D;rw [Bool.and_eq_true,beq_iff_eq] at D;obtain ⟨hb,rfl⟩:=D;cases r with
   | nil=>simp at N;subst N;obtain ⟨_,o',I,J⟩:=mem_ready.1 q;rw [K] at I;injection I with I;subst I;exact J e U hb
   | cons c r'=>have O:=oH j q (c::r') b u (by simpa using N);exact j b o K O e U hb
def fh (P:Program) (md:Region.Mode) (ops:Array Oper) (Q:Exit→Act→World→Prop) (S:World→Prop) (L:Nat):Nat→Array Bool→Act→World→Prop
 | 0,listed,a,w=>Region.ready md ops listed=[]∧Q .normal a w
 | fuel+1,listed,a,w=>
  (Region.ready md ops listed=[]→Q .normal a w) ∧
  ∀ i∈Region.ready md ops listed,wpOp P ops Q i (fun a' w'=>(S w'∨i=L)∧fh P md ops Q S L fuel (listed.setIfInBounds i true) a' w') a w
theorem pC:∀ (fuel:Nat) (listed:Array Bool) (a:Act) (w:World),fh P md ops Q S L fuel listed a w→wpAny P md ops Q fuel listed a w
 | 0,_,_,_,h=>h
 | fuel+1,_,_,_,h=>⟨h.1,fun i hi=>wpOp_mono (fun a' w' h'=>pC fuel _ a' w' h'.2) (h.2 i hi)⟩
theorem sD {i:Nat} {oi:Oper} {v:Value} (hi:ops[i]? = some oi) (K:∀ (j:Nat) (o:Oper) cs b,ops[j]? = some o→o.op≠.select cs b)
  (hQ:∀ c a w,Q (.panic c) (a.put oi.dst v) w→Q (.panic c) a w) (p:List Nat) (hp:rV md ops (i::p)=true) (hl:p.getLast? = some L) :
  ∀ (fuel:Nat) (listed:Array Bool) (a:Act) (w:World),ny md ops listed →
    (∀ j oj,ops[j]? = some oj→j≠i→listed.getD j true=false→(∀ e∈oj.after,Region.binds md e=true→e.on≠i)→oi.apart ops oj=true) →
    i∈Region.ready md ops listed→YieldsIf P ops S oi v a→S w →
    fh P md ops Q S L fuel (listed.setIfInBounds i true) (a.put oi.dst v) w→fh P md ops Q S L (fuel+1) listed a w:=by
 intro fuel;induction fuel with
 | zero=>
  intro listed a w _ _ N hy hS H;refine ⟨fun h=>(by rw [h] at N;cases N),fun j hj=>?_⟩;by_cases D:j=i
  ·subst D;exact hy.wpOp hi hS ⟨.inl hS,H⟩
  ·have:=ready_mono hj D;rw [H.1] at this;cases this
 | succ fuel ih=>
  intro listed a w hcl I N hy hS H;refine ⟨fun h=>(by rw [h] at N;cases N),fun j hj=>?_⟩;by_cases D:j=i
  ·subst D;exact hy.wpOp hi hS ⟨.inl hS,H⟩
  ·have h1:=H.2 j (ready_mono hj D);obtain ⟨M,oj,O,gb⟩:=mem_ready.1 hj;have U:listed.getD i false=false:=by
    have h0:=(mem_ready.1 N).1;rcases Nat.lt_or_ge i listed.size with h' | h'
    ·simp [h'] at h0 ⊢;exact h0
    ·simp [Array.getElem?_eq_none h']
   (have ga:j≠L:=by rintro rfl;rw [oH hcl hj p i hp hl] at U;cases U);(have q:∀ e∈oj.after,Region.binds md e=true→e.on≠i:=fun e he hb heq=>by have h1:=gb e he hb;rw [heq,U] at h1;cases h1);have h2:=wpOp_putIf O (I j oj O D M q) (fun cs b=>K i oi cs b hi) (fun cs b=>K j oj cs b O) hQ hy h1;have J:∀ k ok,ops[k]? = some ok→k≠i→(listed.setIfInBounds j true).getD k true=false →
     (∀ e∈ok.after,Region.binds md e=true→e.on≠i)→oi.apart ops ok=true:=fun k ok hk hki hun hno=>by
    refine I k ok hk hki ?_ hno;by_cases u:j=k
    ·subst u;exact M
    ·rw [getD_set_ne true u] at hun;exact hun
   refine wpOp_mono (fun a' w' h3=>⟨.inl (h3.2.1.resolve_right ga),ih (listed.setIfInBounds j true) a' w' (wt hcl hj) J (ready_mono N (Ne.symm D)) h3.1 (h3.2.1.resolve_right ga) ?_⟩) h2;rw [Array.setIfInBounds_comm _ _ D];exact h3.2.2
theorem tX {i:Nat} {oi:Oper} {v:Value} {fuel:Nat} {listed:Array Bool} {a:Act} {w:World} (p:List Nat) (D:ops[i]? = some oi)
  (O:oW md ops listed=true) (K:rV md ops (i::p)=true) (M:p.getLast? = some L)
  (hs:Region.noSelect ops=true) (N:Region.free md ops listed i=true) (J:(Region.ready md ops listed).contains i=true)
  (j:∀ c a w,Q (.panic c) (a.put oi.dst v) w→Q (.panic c) a w) (I:YieldsIf P ops S oi v a) (U:S w)
  (h:fh P md ops Q S L fuel (listed.setIfInBounds i true) (a.put oi.dst v) w):fh P md ops Q S L (fuel+1) listed a w:=
 sD D (Region.noSelect_spec hs) j p K M fuel listed a w (AM O) (Region.free_spec D N) (by simpa using J) I U h
theorem yF (i:Nat) {oi:Oper} {v:Value} {fuel:Nat} {listed:Array Bool} {a:Act} {w:World} (p:List Nat) (N:S w)
  (h:fh P md ops Q S L fuel (listed.setIfInBounds i true) (a.put oi.dst v) w) (M:ops[i]? = some oi:=by rfl)
  (D:(oW md ops listed&&(rV md ops (i::p)&&(Region.noSelect ops&&(Region.free md ops listed i&&(Region.ready md ops listed).contains i))))=true:=by kernel_rfl) (K:p.getLast? = some L:=by rfl)
  (O:∀ c a w,Q (.panic c) (a.put oi.dst v) w→Q (.panic c) a w:=by exact fun _ _ _ h=>h) (J:Region.wanted oi (yielded ops a.tmps)=true:=by rfl)
  (I:∀ w,S w→(execOp a.eval oi).run P w=.ok (.value v) w:=by intro w hSw;(try dsimp only [SS] at hSw);go_simp;try (with_reducible rfl)):fh P md ops Q S L (fuel+1) listed a w:=by simp only [Bool.and_eq_true] at D;exact tX p M D.1 D.2.1 K D.2.2.1 D.2.2.2.1 D.2.2.2.2 O (Or.inl ⟨J,I⟩) N h
def dE (P:Program) (md:Region.Mode) (ops:Array Oper) (Q:Exit→Act→World→Prop) (S:World→Prop) (L:Nat) (fuel:Nat) (listed:Array Bool) (a:Act) (w:World) (rs:List Nat):Prop:=
 ∀ i∈rs,wpOp P ops Q i (fun a' w'=>(S w'∨i=L)∧fh P md ops Q S L fuel (listed.setIfInBounds i true) a' w') a w
theorem dE.nil {fuel:Nat} {listed:Array Bool} {a:Act} {w:World} : dE P md ops Q S L fuel listed a w []:=fun _ h=>by cases h
theorem dE.cons {fuel:Nat} {listed:Array Bool} {a:Act} {w:World} {i:Nat} {o:Oper} {rs:List Nat} (I:ops[i]? = some o)
  (h:∀ K':Act→World→Prop,Shut (∀ a w,(S w∨i=L)→(S w∨i=L→fh P md ops Q S L fuel (listed.setIfInBounds i true) a w)→K' a w)→if Region.wanted o (yielded ops a.tmps)=true then Oper.wp P o a w K' Q else K' (a.put o.dst undef) w)
  (hs:dE P md ops Q S L fuel listed a w rs):dE P md ops Q S L fuel listed a w (i::rs):=fun j hj=>by
 rcases List.mem_cons.1 hj with rfl | hj
 ·exact wpOp_step I (fun K' hK=>h K' (fun a w D J=>hK a w ⟨D,J D⟩))
 ·exact hs j hj
theorem a7 {rs:List Nat} {fuel:Nat} {listed:Array Bool} {a:Act} {w:World} (I:Region.ready md ops listed=rs) (D:rs≠[])
  (h:dE P md ops Q S L fuel listed a w rs):fh P md ops Q S L (fuel+1) listed a w:=
 ⟨fun J=>absurd (I▸J) D,I▸h⟩
theorem lU {listed:Array Bool} {a:Act} {w:World} (D:Region.ready md ops listed=[]) (h:Q .normal a w) :
  ∀ fuel,fh P md ops Q S L fuel listed a w
 | 0=>⟨D,h⟩
 | _+1=>⟨fun _=>h,by rw [D];simp⟩
theorem lV (L:Nat) {id:Nat} {a:Act} {w:World} (D:P.follows .mixedOrders=true) (I:S w.drew)
  (h:S w.drew→fh P .any ops Q S L ops.size (Array.replicate ops.size false) a w.drew):(Code.region id ops true).wp P Q a w:=
 wp_region_any D (pC _ _ _ _ (h I))
end
end
section
open Go.RowKit Go.Lib Go.Proofs
attribute [local go_sem ↓] Go.wp_at_zero Go.wp_at_succ
def nM (t:cK):List Value:=[.int .i64 t.kind,.string t.text,.int .i64 t.pos]
theorem fY (t:cK):(nM t).length=3:=rfl
structure cw where
 R:Nat
 A:Option Addr
 cap:Nat
 c:Cx
 w0:World
def na (E:cw) (s:St):Array Value:=#[.slice E.A E.c.toks.length E.cap,.int .i64 s.at_,.int .i64 E.c.fin,.bool s.head,.int .i64 s.part]
def Ip (E:cw) (w:World):Prop:=∀ b,b<E.R→w.heap[b]? = E.w0.heap[b]?
structure aW (E:cw) (w:World) (s:St):Prop where
 blk:ar w E.R 62 (na E s)
 toks:dk (· < E.R) w 3 E.A E.c.toks.length (E.c.toks.flatMap nM)
 le:s.at_≤E.c.toks.length
 most:E.c.toks.length≤1000000
 fits:E.c.toks.length≤E.cap
 old:Ip E w
section
variable {E:cw} {w w':World} {s s':St}
theorem aW.lt (h:aW E w s):E.R<w.heap.size:=h.blk.lt
theorem aW.keep (h:aW E w s) (D:∀ b,b≤E.R→w'.heap[b]? = w.heap[b]?):aW E w' s:=
 ⟨(D _ (Nat.le_refl _)).trans h.blk,h.toks.keep (fun b hb _=>D b (Nat.le_of_lt hb)),h.le,h.most,h.fits,fun b hb=>(D b (Nat.le_of_lt hb)).trans (h.old b hb)⟩
theorem aW.below (h:aW E w s) (hb:Below w.heap.size w w'):aW E w' s:=h.keep fun b hbR=>hb.block b (Nat.lt_of_le_of_lt hbR h.lt)
theorem aW.drew (h:aW E w s):aW E w.drew s:=h.below (Below.refl _ _).drew
theorem aW.drewN (h:aW E w s) (n:Nat):aW E (w.drewN n) s:=h.below (below_drewN (Below.refl _ _) n)
theorem aW.alloc (h:aW E w s) (o:Obj):aW E (w.alloc o) s:=h.below ((Below.refl _ _).alloc (Nat.le_refl _) o)
theorem aW.far (h:aW E w s) {p:Addr} (D:E.R<p.block) (u:Value):aW E (w.setCell p u) s:=
 h.keep fun b hb=>Below.heap_setCell w p u b (by omega)
theorem aW.grown (h:aW E w s) {row:Option Nat} (I:w.grownBy w' row) (D:∀ g,row=some g→E.R<g):aW E w' s:=
 h.keep fun b hb=>I.block b (Nat.lt_of_le_of_lt hb h.lt) (fun e=>by have:=D b e.symm;omega)
theorem aW.toks_keep (h:aW E w s) (D:w.grownBy w' (some E.R)):dk (· < E.R) w' 3 E.A E.c.toks.length (E.c.toks.flatMap nM):=
 h.toks.keep fun b hb hlt=>D.block b hlt (fun e=>by injection e with e;omega)
theorem aW.setAt (h:aW E w s) (n:Nat) (D:n≤E.c.toks.length):aW E (w.setCell ⟨E.R,1,none⟩ (.int .i64 (n:Int))) { s with at_:=n } :=
 ⟨by simpa [na] using h.blk.set_ 1 (.int .i64 (n:Int)),h.toks_keep (eF _ _ _ _),D,h.most,h.fits,fun k hk=>(Below.heap_setCell w _ _ k (by show k≠E.R;omega)).trans (h.old k hk)⟩
theorem aW.setHead (h:aW E w s) (b:Bool):aW E (w.setCell ⟨E.R,3,none⟩ (.bool b)) { s with head:=b } :=
 ⟨by simpa [na] using h.blk.set_ 3 (.bool b),h.toks_keep (eF _ _ _ _),h.le,h.most,h.fits,fun k hk=>(Below.heap_setCell w _ _ k (by show k≠E.R;omega)).trans (h.old k hk)⟩
theorem aW.setPart (h:aW E w s) (n:Int):aW E (w.setCell ⟨E.R,4,none⟩ (.int .i64 n)) { s with part:=n } :=
 ⟨by simpa [na] using h.blk.set_ 4 (.int .i64 n),h.toks_keep (eF _ _ _ _),h.le,h.most,h.fits,fun k hk=>(Below.heap_setCell w _ _ k (by show k≠E.R;omega)).trans (h.old k hk)⟩
theorem aW.cells (h:aW E w s):w.cell? ⟨E.R,0,none⟩=some (.slice E.A E.c.toks.length E.cap)∧w.cell? ⟨E.R,1,none⟩=some (.int .i64 s.at_)∧w.cell? ⟨E.R,2,none⟩=some (.int .i64 E.c.fin) ∧
  w.cell? ⟨E.R,3,none⟩=some (.bool s.head)∧w.cell? ⟨E.R,4,none⟩=some (.int .i64 s.part)∧(∀ i,w.frozen? ⟨E.R,i,none⟩=false):=by have c0:=h.blk.cell 0;have c1:=h.blk.cell 1;have c2:=h.blk.cell 2;have c3:=h.blk.cell 3;have c4:=h.blk.cell 4;simp [na] at c0 c1 c2 c3 c4;exact ⟨c0,c1,c2,c3,c4,h.blk.frozen⟩
theorem aW.tok (h:aW E w s) (i:Nat) (D:i<E.c.toks.length):∃ b off,E.A=some ⟨b,off,none⟩∧b<E.R∧w.cell? ⟨b,off+i * 3,none⟩=some (.int .i64 (aE E.c i).kind) ∧
  w.cell? ⟨b,off+i * 3+1,none⟩=some (.string (aE E.c i).text)∧w.cell? ⟨b,off+i * 3+2,none⟩=some (.int .i64 (aE E.c i).pos):=by
 obtain ⟨b,off,e,hb,I⟩:=h.toks.2 (by omega);(have J:aE E.c i=E.c.toks[i]:=by unfold aE;rw [List.getElem?_eq_getElem D]);rw [J];refine ⟨b,off,e,hb,I (i * 3) _ ?_,I (i * 3+1) _ ?_,I (i * 3+2) _ ?_⟩
 ·have:=iN fY E.c.toks i 0 D (by omega);rw [Nat.add_zero] at this;rw [this];rfl
 ·rw [iN fY E.c.toks i 1 D (by omega)];rfl
 ·rw [iN fY E.c.toks i 2 D (by omega)];rfl
theorem iR (c:Cx) (i:Nat) (h:c.toks.length≤i):aE c i=⟨0,⟨#[]⟩,c.fin⟩:=by unfold aE;rw [List.getElem?_eq_none h]
end
def iA (t:cK):Value:=.agg #[.int .i64 t.kind,.string t.text,.int .i64 t.pos]
theorem aN {B:Nat} {a w:World} (h:Below B a w) (n:Nat):Below B a (w.drewN n):=h.trans ⟨rfl,rfl,rfl,Nat.le_refl _,fun _ _=>rfl⟩
theorem bel {p:Prop} (h:p:=by repeat' (first | with_reducible exact Below.refl _ _ | with_reducible refine Below.alloc ?_ ?_ _ | with_reducible refine Below.setCell ?_ ?_ _ | with_reducible refine Below.drew ?_ | with_reducible refine aN ?_ _ | (simp <;> omega) | omega)):p:=h
theorem lJ {p:Prop} (h:p:=by repeat' (first | with_reducible assumption | with_reducible exact Below.refl _ _ | with_reducible refine Below.alloc ?_ ?_ _ | with_reducible refine Below.setCell ?_ ?_ _ | with_reducible refine Below.drew ?_ | with_reducible refine aN ?_ _ | (simp <;> omega) | omega)):p:=h
theorem cr (E:cw) (s:St) (w:World) (h:aW E w s):Calls Tryz.prog 62 #[.pointer (some ⟨E.R,0,none⟩)] w fun e w'=>e=.returned (iA (aE E.c s.at_))∧Below w.heap.size w w':=by
 obtain ⟨c0,c1,c2,_,_,_⟩:=h.cells;have K:=h.lt;have U:=Nat.ne_of_lt K;have J:=h.most;by_cases D:s.at_=E.c.toks.length
 ·have M:=iR E.c s.at_ (by omega);rw [M];rw [D] at c1;clear M D h;(go_enter Tryz.func62,Tryz.ntmps62);(go_wp2_with fail);go_quiet (fail);(go_wp2_with fail);refine bodyPost_ret (v:=iA ⟨0,⟨#[]⟩,E.c.fin⟩) (by simp [results,iA,Tryz.results62,go_sem]) rfl ⟨rfl,?_⟩;exact bel
 ·(have I:s.at_<E.c.toks.length:=by have:=h.le;omega);obtain ⟨b,off,eA,hb,u,q,j⟩:=h.tok s.at_ I;rw [eA] at c0;(have g1:((s.at_:Int)==(E.c.toks.length:Int))=false:=by simp;omega);(have g2:(0:Int)≤(s.at_:Int):=by omega);(have g3:(s.at_:Int)<(E.c.toks.length:Int):=by omega);(have O:b<w.heap.size:=by omega);(have N:b≠w.heap.size:=by omega);clear D h eA;(go_enter Tryz.func62,Tryz.ntmps62);(go_wp2_with fail);go_quiet (fail);(go_wp2_with fail);go_region;(go_wp2_with fail);refine bodyPost_ret (v:=iA (aE E.c s.at_)) (by simp [results,iA,Tryz.results62,go_sem]) rfl ⟨rfl,?_⟩;exact bel
end
section
open Go.Proofs
section
variable {P:Program} {md:Region.Mode} {ops:Array Oper} {Q:Exit→Act→World→Prop} {S:World→Prop}
theorem mA (i:Nat) {oi:Oper} {v:Value} {fuel:Nat} {listed:Array Bool} {a:Act} {w:World} (K:S w) (h:wpAnyH P md ops Q S fuel (listed.setIfInBounds i true) (a.put oi.dst v) w)
  (J:ops[i]? = some oi:=by rfl) (hb:(Region.noSelect ops&&(Region.free md ops listed i&&(Region.ready md ops listed).contains i))=true:=by kernel_rfl)
  (M:∀ c a w,Q (.panic c) (a.put oi.dst v) w→Q (.panic c) a w:=by exact fun _ _ _ h=>h) (I:Region.wanted oi (yielded ops a.tmps)=true:=by rfl)
  (D:∀ w,S w→(execOp a.eval oi).run P w=.ok (.value v) w:=by intro w hSw;(try dsimp only [SS] at hSw);go_simp;try (with_reducible rfl)):wpAnyH P md ops Q S (fuel+1) listed a w:=by rw [Bool.and_eq_true,Bool.and_eq_true] at hb;exact wpAnyH_take J hb.1 hb.2.1 hb.2.2 M (Or.inl ⟨I,D⟩) K h
theorem F7 (i:Nat) {fuel:Nat} {listed:Array Bool} {a:Act} {w:World} {o:Oper}
 (h:∀ K':Act→World→Prop,Shut (∀ a w,S w→(S w→wpAnyH P md ops Q S fuel (listed.setIfInBounds i true) a w)→K' a w)→if Region.wanted o (yielded ops a.tmps)=true then Oper.wp P o a w K' Q else K' (a.put o.dst undef) w)
 (D:Region.ready md ops listed=[i]:=by kernel_rfl) (I:ops[i]? = some o:=by rfl):wpAnyH P md ops Q S (fuel+1) listed a w:=wpAnyH_ready D (by simp) (AllReadyH.cons I h AllReadyH.nil)
end
end
section
open Go.RowKit Go.Lib Go.Proofs
attribute [local go_sem ↓] Go.wp_at_zero Go.wp_at_succ
theorem toList_inj {a b:ByteArray} : a.toList=b.toList↔a=b:=by
 constructor
 ·intro h;rw [ByteArray.toList_eq,ByteArray.toList_eq] at h;cases a;cases b;congr;exact Array.ext' h
 ·rintro rfl;rfl
theorem cU (a b:ByteArray):(a.toList==b.toList)=decide (a=b):=by rw [Bool.eq_iff_iff];simp only [beq_iff_eq,decide_eq_true_eq];exact toList_inj
theorem af (f:ByteArray):f.toList.isEmpty=decide (f=⟨#[]⟩):=by have h:=cU f ⟨#[]⟩;rw [←h];(have e:(⟨#[]⟩:BA).toList=[]:=by rw [ByteArray.toList_eq]);rw [e];cases f.toList <;> rfl
section
variable (a b c d:Value) (w:World)
theorem bg:(Instr.field 43 (.agg #[a,b,c]) 0).run Tryz.prog w=.ok a w:=by kernel_rfl
theorem bh:(Instr.field 43 (.agg #[a,b,c]) 1).run Tryz.prog w=.ok b w:=by kernel_rfl
theorem bi:(Instr.field 43 (.agg #[a,b,c]) 2).run Tryz.prog w=.ok c w:=by kernel_rfl
theorem bC:(Instr.field 24 (.agg #[a,b,c,d]) 0).run Tryz.prog w=.ok a w:=by kernel_rfl
theorem bD:(Instr.field 24 (.agg #[a,b,c,d]) 1).run Tryz.prog w=.ok b w:=by kernel_rfl
theorem bE:(Instr.field 24 (.agg #[a,b,c,d]) 2).run Tryz.prog w=.ok c w:=by kernel_rfl
theorem bF:(Instr.field 24 (.agg #[a,b,c,d]) 3).run Tryz.prog w=.ok d w:=by kernel_rfl
end
attribute [local go_sem] bg bh bi bC bD bE bF
def aL (p:Int):Ending:=.panicked [{ v:=.iface 73 (.agg #[.int .i64 p,.int .i64 5]),recovered:=false }]
theorem iS (E:cw) (s:St) (w:World) (h:aW E w s):Calls Tryz.prog 60 #[.pointer (some ⟨E.R,0,none⟩)] w fun e w'=>e=aL (bz E.c s)∧Below w.heap.size w w':=by have D:=hid h;clear h;(go_enter Tryz.func60,Tryz.ntmps60);(go_wp2_with fail);refine (cr E s w D.out).mono ?_;rintro e w' ⟨rfl,hb⟩;unfold iA;have I:=hid hb;clear hb;(go_wp2_with fail);exact ⟨rfl,rfl,I.out⟩
theorem da (E:cw) (s:St) (x:ByteArray) (w:World) (h:aW E w s):Calls Tryz.prog 42 #[.pointer (some ⟨E.R,0,none⟩),.string x] w fun e w'=>e=.returned (.bool (cm E.c s x))∧Below w.heap.size w w':=by have J:=hid h;(have D:cm E.c s x=(((aE E.c s.at_).kind==2||(aE E.c s.at_).kind==6)&&((aE E.c s.at_).text.toList==x.toList)):=by unfold cm IE;rw [cU]);rw [D];have I:=hid (cr E s w h);clear D h J;generalize aE E.c s.at_=t at *;obtain ⟨tk,tt,tp⟩:=t;unfold iA at I;simp only at *;cases O:(tk==2) <;> cases N:(tk==6) <;> cases M:(tt.toList==x.toList);all_goals (go_enter Tryz.func42,Tryz.ntmps42);(go_wp2_with fail);refine I.out.mono ?_;rintro e w' ⟨rfl,hb⟩;have K:=hid hb;clear hb;(go_wp2_with fail);go_ret;have hb:=K.out;exact ⟨rfl,(((hb.alloc hb.size _)))⟩
structure ct (E:cw) (s:St) (w w':World):Prop where
 rd:aW E w' s
 bel:Below w.heap.size w w'
theorem ct.refl {E:cw} {s:St} {w:World} (h:aW E w s):ct E s w w:=⟨h,Below.refl _ _⟩
theorem ct.step {E:cw} {s:St} {w w1 w2:World} (h:ct E s w w1) (hb:Below w1.heap.size w1 w2):ct E s w w2:=⟨h.rd.below hb,am h.bel hb⟩
theorem ct.alloc {E:cw} {s:St} {w w1:World} (h:ct E s w w1) (o:Obj):ct E s w (w1.alloc o):=h.step ((Below.refl _ _).alloc (Nat.le_refl _) o)
theorem ct.drew {E:cw} {s:St} {w w1:World} (h:ct E s w w1):ct E s w w1.drew:=h.step (Below.refl _ _).drew
structure aC (E:cw) (s:St) (w w':World):Prop where
 rd:aW E w' s
 gr:w.grownBy w' (some E.R)
theorem ct.moved {E:cw} {s:St} {w w':World} (h:ct E s w w'):aC E s w w':=⟨h.rd,aP _ h.bel⟩
theorem aC.refl {E:cw} {s:St} {w:World} (h:aW E w s):aC E s w w:=⟨h,World.grownBy.refl w _⟩
theorem aC.setAt {E:cw} {s:St} {w w':World} (h:aC E s w w') (n:Nat) (D:n≤E.c.toks.length):aC E { s with at_:=n } w (w'.setCell ⟨E.R,1,none⟩ (.int .i64 (n:Int))):=
 ⟨h.rd.setAt n D,h.gr.trans (eF _ _ _ _)⟩
theorem aC.setHead {E:cw} {s:St} {w w':World} (h:aC E s w w') (b:Bool):aC E { s with head:=b } w (w'.setCell ⟨E.R,3,none⟩ (.bool b)):=
 ⟨h.rd.setHead b,h.gr.trans (eF _ _ _ _)⟩
theorem aC.setPart {E:cw} {s:St} {w w':World} (h:aC E s w w') (n:Int):aC E { s with part:=n } w (w'.setCell ⟨E.R,4,none⟩ (.int .i64 n)):=
 ⟨h.rd.setPart n,h.gr.trans (eF _ _ _ _)⟩
theorem aC.trans {E:cw} {s s':St} {w w1 w2:World} (h:aC E s w w1) (h':aC E s' w1 w2):aC E s' w w2:=⟨h'.rd,h.gr.trans h'.gr⟩
theorem aC.step {E:cw} {s:St} {w w1 w2:World} (h:aC E s w w1) (hb:Below w1.heap.size w1 w2):aC E s w w2:=h.trans ⟨h.rd.below hb,aP _ hb⟩
theorem aC.alloc {E:cw} {s:St} {w w1:World} (h:aC E s w w1) (o:Obj):aC E s w (w1.alloc o):=h.step ((Below.refl _ _).alloc (Nat.le_refl _) o)
theorem aC.drew {E:cw} {s:St} {w w1:World} (h:aC E s w w1):aC E s w w1.drew:=h.step (Below.refl _ _).drew
theorem aC.drewN {E:cw} {s:St} {w w1:World} (h:aC E s w w1) (n:Nat):aC E s w (w1.drewN n):=h.step (aN (Below.refl _ _) n)
theorem ct.drewN {E:cw} {s:St} {w w1:World} (h:ct E s w w1) (n:Nat):ct E s w (w1.drewN n):=h.step (aN (Below.refl _ _) n)
theorem aC.own {E:cw} {s:St} {w D:World} (h:aC E s w D) {p:Addr} (I:w.heap.size≤p.block) (J:E.R<p.block) (u:Value):aC E s w (D.setCell p u):=
 ⟨h.rd.far J u,by obtain ⟨b,o,z⟩:=p;exact ⟨h.gr.os,h.gr.tape,h.gr.output,by simpa using h.gr.size,fun k hk hne=>(Below.heap_setCell D ⟨b,o,z⟩ u k (by simp at I ⊢;omega)).trans (h.gr.block k hk hne)⟩⟩
theorem pf {E:cw} {s:St} {w:World} (_h:aW E w s) {x:ByteArray} (D:cm E.c s x=true):s.at_<E.c.toks.length:=by
 rcases Nat.lt_or_ge s.at_ E.c.toks.length with h | h
 ·exact h
 ·unfold cm at D;rw [iR E.c s.at_ h] at D;simp [IE] at D
theorem dH (E:cw) (s:St) (x:ByteArray) (w:World) (h:aW E w s) (D:cm E.c s x=true):Calls Tryz.prog 84 #[.pointer (some ⟨E.R,0,none⟩),.string x] w fun e w'=>e=.returned (.bool true)∧aC E (ba s) w w':=by have M:=pf h D;have I:=h.most;have N:=hid D;have O:=hid (da E s x w h);clear D;(go_enter Tryz.func84,Tryz.ntmps84);(go_wp2_with fail);refine O.out.mono ?_;rw [N.out];rintro e w' ⟨rfl,hb⟩;have K:=(ct.refl h).step hb;obtain ⟨c0,c1,c2,c3,c4,J⟩:=K.rd.cells;have U:=hid J;have f1:=J 1;clear hb J;(go_wp2_with fail);go_ret;exact ⟨rfl,K.moved.setAt (s.at_+1) (by omega)⟩
theorem dB (E:cw) (s:St) (x:ByteArray) (w:World) (h:aW E w s) (D:cm E.c s x=false):Calls Tryz.prog 84 #[.pointer (some ⟨E.R,0,none⟩),.string x] w fun e w'=>e=.returned (.bool false)∧ct E s w w':=by have J:=hid D;have K:=hid (da E s x w h);clear D;(go_enter Tryz.func84,Tryz.ntmps84);(go_wp2_with fail);refine K.out.mono ?_;rw [J.out];rintro e w' ⟨rfl,hb⟩;have I:=(ct.refl h).step hb;clear hb;(go_wp2_with fail);go_ret;exact ⟨rfl,I⟩
theorem nb (E:cw) (s:St) (x:ByteArray) (w:World) (h:aW E w s) (D:cm E.c s x=true):Calls Tryz.prog 63 #[.pointer (some ⟨E.R,0,none⟩),.string x] w fun e w'=>e=.returned (.tuple #[])∧aC E (ba s) w w':=by have J:=hid (dH E s x w h D);clear D h;(go_enter Tryz.func63,Tryz.ntmps63);(go_wp2_with fail);refine J.out.mono ?_;rintro e w' ⟨rfl,I⟩;(go_wp2_with fail);go_end0;exact ⟨rfl,I⟩
theorem oQ (E:cw) (s:St) (x:ByteArray) (w:World) (h:aW E w s) (D:cm E.c s x=false):Calls Tryz.prog 63 #[.pointer (some ⟨E.R,0,none⟩),.string x] w fun e w'=>e=aL (bz E.c s)∧Below w.heap.size w w':=by have J:=hid (dB E s x w h D);clear D h;(go_enter Tryz.func63,Tryz.ntmps63);(go_wp2_with fail);refine J.out.mono ?_;rintro e w' ⟨rfl,I⟩;(go_wp2_with fail);refine (iS E s w' I.rd).mono ?_;rintro e w2 ⟨rfl,hb⟩;unfold aL;exact ⟨rfl,rfl,am I.bel hb⟩
theorem tc (E:cw) (s:St) (w:World) (h:aW E w s):Calls Tryz.prog 85 #[.pointer (some ⟨E.R,0,none⟩)] w fun e w'=>e=.returned (.bool (eh E.c s))∧ct E s w w':=by have D:=ct.refl h;have hs:eh E.c s=(cm E.c s (⟨#[59]⟩:BA)||cm E.c s (⟨#[10]⟩:BA)):=rfl;have J:=hid (fun w' (h:aW E w' s)=>da E s (⟨#[59]⟩:BA) w' h);have I:=hid (fun w' (h:aW E w' s)=>da E s (⟨#[10]⟩:BA) w' h);rw [hs];clear hs;generalize cm E.c s (⟨#[59]⟩:BA)=a at *;generalize cm E.c s (⟨#[10]⟩:BA)=b at *;cases a <;> cases b;all_goals (go_enter Tryz.func85,Tryz.ntmps85);(go_wp2_with fail);refine (J.out _ h).mono ?_;rintro e w' ⟨rfl,hb⟩;replace D:=D.step hb;clear hb;go_wp2_with (go_at_call 42;refine (I.out _ D.rd).mono ?_;rintro e w' ⟨rfl,hb⟩;replace D:=D.step hb;clear hb);go_ret;exact ⟨rfl,D⟩
theorem ll (E:cw) (s:St) (w:World) (h:aW E w s):Calls Tryz.prog 66 #[.pointer (some ⟨E.R,0,none⟩)] w fun e w'=>e=.returned (.bool (eh E.c s))∧aC E (ip E.c s) w w':=by
 have N:=hid (tc E s w h);have hs:ip E.c s=if eh E.c s=true then ba s else s:=rfl;have K:eh E.c s=true→s.at_<E.c.toks.length:=fun hb=>by
  unfold eh at hb;rcases Bool.or_eq_true_iff.1 hb with J | J
  ·exact pf h J
  ·exact pf h J
 have I:=h.most;rw [hs];clear hs;generalize eh E.c s=a at *;cases a
 ·(go_enter Tryz.func66,Tryz.ntmps66);(go_wp2_with fail);refine N.out.mono ?_;rintro e w' ⟨rfl,D⟩;(go_wp2_with fail);go_ret;exact ⟨rfl,D.moved⟩
 ·have O:=K rfl;clear K;(go_enter Tryz.func66,Tryz.ntmps66);(go_wp2_with fail);refine N.out.mono ?_;rintro e w' ⟨rfl,D⟩;obtain ⟨c0,c1,c2,c3,c4,M⟩:=D.rd.cells;have f1:=M 1;clear M;(go_wp2_with fail);go_ret;exact ⟨rfl,D.moved.setAt (s.at_+1) (by omega)⟩
theorem BJ (E:cw) (s:St) (D:(aE E.c s.at_).kind=1):s.at_<E.c.toks.length:=by
 rcases Nat.lt_or_ge s.at_ E.c.toks.length with h | h
 ·exact h
 ·rw [iR E.c s.at_ h] at D;simp at D
theorem nd (E:cw) (s:St) (w:World) (h:aW E w s) (M:(aE E.c s.at_).kind=1):Calls Tryz.prog 65 #[.pointer (some ⟨E.R,0,none⟩)] w fun e w'=>e=.returned (.string (aE E.c s.at_).text)∧aC E (ba s) w w':=by have U:=BJ E s M;have J:=h.most;have O:=hid (cr E s w h);generalize aE E.c s.at_=t at *;obtain ⟨tk,tt,tp⟩:=t;unfold iA at O;simp only at *;subst M;(go_enter Tryz.func65,Tryz.ntmps65);(go_wp2_with fail);refine O.out.mono ?_;rintro e w' ⟨rfl,hb⟩;have I:=(ct.refl h).step hb;obtain ⟨c0,c1,c2,c3,c4,N⟩:=I.rd.cells;have f1:=N 1;have D:=I.rd.lt;have K:=Nat.ne_of_lt D;clear N;(go_wp2_with fail);go_ret;exact ⟨rfl,(I.moved.setAt (s.at_+1) (by omega)).alloc _⟩
theorem oR (E:cw) (s:St) (w:World) (h:aW E w s) (K:¬ (aE E.c s.at_).kind=1):Calls Tryz.prog 65 #[.pointer (some ⟨E.R,0,none⟩)] w fun e w'=>e=aL (bz E.c s)∧Below w.heap.size w w':=by have I:=hid (cr E s w h);generalize aE E.c s.at_=t at *;obtain ⟨tk,tt,tp⟩:=t;unfold iA at I;simp only at *;(go_enter Tryz.func65,Tryz.ntmps65);(go_wp2_with fail);refine I.out.mono ?_;rintro e w' ⟨rfl,hb⟩;have D:=((ct.refl h).step hb).alloc (.cells #[.int .i64 tk,.string tt,.int .i64 tp] 43);(have J:(tk != 1)=true:=by simpa using K);(go_wp2_with fail);refine (iS E s _ D.rd).mono ?_;rintro e w2 ⟨rfl,hb⟩;unfold aL;exact ⟨rfl,rfl,am D.bel hb⟩
theorem Af (E:cw) (s:St) (w:World) (h:aW E w s):Calls Tryz.prog 180 #[.pointer (some ⟨E.R,0,none⟩)] w fun e w'=>e=.returned (.bool (sk E.c s))∧ct E s w w':=by
 have D:=ct.refl h;have hs:sk E.c s=((aE E.c s.at_).kind==1||(cm E.c s (⟨#[91]⟩:BA)||(cm E.c s (⟨#[40]⟩:BA)||cm E.c s (⟨#[102,117,110,99]⟩:BA)))):=rfl;have I:=hid (cr E s w h);have M:=hid (fun w' (h:aW E w' s)=>da E s (⟨#[91]⟩:BA) w' h);have K:=hid (fun w' (h:aW E w' s)=>da E s (⟨#[40]⟩:BA) w' h);have J:=hid (fun w' (h:aW E w' s)=>da E s (⟨#[102,117,110,99]⟩:BA) w' h);rw [hs];clear hs;generalize cm E.c s (⟨#[91]⟩:BA)=a at *;generalize cm E.c s (⟨#[40]⟩:BA)=b at *;generalize cm E.c s (⟨#[102,117,110,99]⟩:BA)=d at *;generalize aE E.c s.at_=t at *;obtain ⟨tk,tt,tp⟩:=t;unfold iA at I;simp only at *;cases N:(tk==1) <;> cases a <;> cases b <;> cases d;all_goals
  (go_enter Tryz.func180,Tryz.ntmps180);(go_wp2_with fail);refine I.out.mono ?_;rintro e w' ⟨rfl,hb⟩;replace D:=D.step hb;clear hb;go_wp2_with (first
   | (go_at_call 42;with_reducible refine (M.out _ D.rd).mono ?_;rintro e w' ⟨rfl,hb⟩;replace D:=D.step hb;clear hb)
   | (go_at_call 42;with_reducible refine (K.out _ D.rd).mono ?_;rintro e w' ⟨rfl,hb⟩;replace D:=D.step hb;clear hb)
   | (go_at_call 42;with_reducible refine (J.out _ D.rd).mono ?_;rintro e w' ⟨rfl,hb⟩;replace D:=D.step hb;clear hb))
  go_ret;exact ⟨rfl,D⟩
theorem cc (a k:Int) (t:ByteArray) (v:Value) (w:World) (D:∃ A n c,v=.slice A n c):Calls Tryz.prog 64 #[.int .i64 a,.int .i64 k,.string t,v] w fun e w'=>e=.returned (.agg #[.int .i64 k,.string t,v,.int .i64 a])∧Below w.heap.size w w':=by obtain ⟨A,n,c,rfl⟩:=D;(go_enter Tryz.func64,Tryz.ntmps64);(go_wp2_with fail);refine bodyPost_ret (v:=.agg #[.int .i64 k,.string t,.slice A n c,.int .i64 a]) (by simp [results,Tryz.results64,go_sem]) rfl ⟨rfl,?_⟩;exact bel
end
end Go.Proofs.YtiebcdeafofgdaaGreatDoor
