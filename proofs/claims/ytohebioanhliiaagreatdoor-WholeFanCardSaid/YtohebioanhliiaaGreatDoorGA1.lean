/- The symbolic executor: definitions and what operations compute. -/
import Derived.WalkKit
import Derived.Lib.SliceRun
import Derived.Stop.IfaceNil
import Derived.Laws.Cover3
set_option linter.unusedVariables false
set_option linter.unusedSimpArgs false
namespace Go.Sx
section
variable{α:Type _}{l:List α}{i:Nat}{β:Type _}
theorem ah(a b:α):(some a=some b)=(a=b):=Option.some.injEq a b
theorem ao(a b:Bool):((a&&b)=true)=(a=true/\b=true):=Bool.and_eq_true a b
theorem ig(a b:Bool):((a||b)=true)=(a=true\/b=true):=Bool.or_eq_true a b
theorem aM{p:Prop} [Decidable p]:(decide p=true)=p:=decide_eq_true_eq
theorem aA(a:α)(b:β)(c:α)(d:β):((a,b)=(c,d))=(a=c/\b=d):=Prod.mk.injEq a b c d
theorem aU{a:α}:a∈a::l:=List.mem_cons_self
theorem bn(y:α){a:α}(h:a∈l):a∈y::l:=List.mem_cons_of_mem y h
theorem bH{b:α}{x:Option β}{f:β->α}:Option.map f x=some b↔∃a,x=some a/\f a=b:=Option.map_eq_some_iff
theorem cT{a:α}:l.getD i a=l[i]?.getD a:=List.getD_eq_getElem?_getD
theorem dh{a:α}:l[i]?=some a↔∃h:i<l.length,l[i]=a:=List.getElem?_eq_some_iff
theorem eT(h:i<l.length):l[i]?=some l[i]:=List.getElem?_eq_getElem h
theorem bF{b:α}{a:α}:a∈b::l↔a=b\/a∈l:=List.mem_cons
theorem ff{a b:List α}:(a++b).length=a.length+b.length:=List.length_append
abbrev eP:=@Result.andThen_ok
abbrev eU:=@Sem.run_bind
abbrev fX:=@Sem.run_pure
abbrev mW:=@of_decide_eq_true
abbrev Jq:=@of_decide_eq_false
abbrev Le:=@decide_eq_false_iff_not
abbrev kG:=@List.all_eq_true
abbrev kD:=@List.map_cons
abbrev xh:=@List.map_congr_left
abbrev xm:=@Int.toNat_natCast
abbrev kB:=@List.getElem?_cons_zero
abbrev A1:=@List.getElem?_cons_succ
abbrev il:=@List.not_mem_nil
abbrev rR:=@Int.mul_le_mul_of_nonneg_left
abbrev rS:=@Int.mul_le_mul_of_nonneg_right
abbrev qw:=@List.getElem?_append_left
abbrev s8:=@List.getElem?_append_right
abbrev jG:=@Bool.false_eq_true
abbrev sQ:=@Array.getElem?_eq_some_iff
abbrev gL:=@List.getElem?_map
abbrev kR:=@decide_eq_true
abbrev oS:=@List.take_of_length_le
abbrev xt:=@List.drop_of_length_le
abbrev jq:=@List.mem_filter
abbrev nQ:=@Bool.not_eq_true'
abbrev sU:=@List.mem_of_getElem?
abbrev n8:=@List.map_append
abbrev th:=@List.getElem?_eq_none
abbrev qK:=@Nat.lt_or_ge
abbrev nc:=@List.nil_append
abbrev ta:=@List.cons_append
abbrev lS:=@List.length_map
abbrev G0:=@Bool.or_eq_false_iff
abbrev adm:=@Bool.and_eq_false_iff
abbrev yJ:=@Nat.mul_le_mul_right
abbrev Hg:=@List.take_append_of_le_length
abbrev Jj:=@List.drop_append_of_le_length
abbrev C1:=@List.eq_nil_of_length_eq_zero
abbrev kL:=@List.mem_singleton
abbrev rM:=@List.map_nil
abbrev jO:=@List.mem_map
abbrev kM:=@Array.ext'
abbrev vr:=@List.length_take
abbrev mi:=@List.mem_append
abbrev As:=@Int.tdiv_eq_ediv_of_nonneg
abbrev yQ:=@Int.emod_lt_of_pos
abbrev A8:=@List.mem_of_find?_eq_some
abbrev wo:=@Int.ediv_nonneg
abbrev j7:=@Int.mul_nonneg
abbrev Bh:=@List.mem_append_left
abbrev Fb:=@List.mem_append_right
abbrev wq:=@List.mem_range
abbrev qe:=@List.length_cons
abbrev A9:=@List.getElem?_take
abbrev mq:=@Nat.eq_of_beq_eq_true
abbrev C2:=@List.take_append_drop
abbrev Fe:=@Int.ediv_lt_of_lt_mul
abbrev yR:=@List.mem_filterMap
abbrev Ha:=@List.getElem?_replicate
abbrev C6:=@Nat.lt_of_lt_of_le
abbrev Aj:=@Int.emod_nonneg
abbrev qH:=@List.append_nil
abbrev V0:=@List.append_assoc
abbrev kI:=@Nat.le_trans
abbrev gK:=@Nat.zero_add
abbrev fz:=@Nat.le_refl
abbrev iM:=@Nat.add_zero
abbrev l6:=@Int.mul_comm
abbrev vY:=@List.foldl_cons
abbrev At:=@Bool.eq_false_iff
abbrev tI:=@Nat.le_add_right
abbrev lR:=@Nat.add_mul
abbrev EW:=@List.toList_toArray
abbrev A6:=@Option.isSome_iff_exists
abbrev tn:=@Option.map_some
abbrev De:=@Int.mul_le_mul
abbrev mr:=@List.any_eq_true
inductive DV where
 |i (n:Int)
 |b (x:Bool)
 |l (xs:List (List Int))
 deriving Inhabited
def DV.int:DV->Int
 |.i n=>n
 |_=>0
def DV.bool:DV->Bool
 |.b x=>x
 |_=>false
def DV.list:DV->List (List Int)
 |.l xs=>xs
 |_=>[]
abbrev aH:=Nat->DV
def aH.set(ae:aH)(k:Nat)(d:DV):aH:=fun j=>if j=k then d else ae j
def aH.aB(ae:aH)(k:Nat):List DV->aH
 | []=>ae
 |d::ds=>aH.aB (aH.set ae k d) (k+1) ds
inductive IE where
 |v (k:Nat)
 |c (n:Int)
 |add (a b:IE)
 |sub (a b:IE)
 |mul (a b:IE)
 |tdiv (a b:IE)
 |tmod (a b:IE)
 |ediv (a:IE) (n:Nat)
 |emod (a:IE) (n:Nat)
 |shl (a b:IE)
 |shr (a b:IE)
 |wrap (k:IntKind) (a:IE)
 |max (a b:IE)
 |min (a b:IE)
 |bits (op:BinOp) (k:IntKind) (a b:IE)
 |len (k:Nat)
 |get (k:Nat) (i:IE) (j:Nat)
 |jZ (i:IE) (n:Nat) (a b:IE)
 deriving DecidableEq,Repr,Inhabited
def cellAt(xs:List (List Int))(i:Int)(j:Nat):Int:=(xs.getD i.toNat []).getD j 0
def IE.af(ae:aH):IE->Int
 |.v k=>(ae k).int
 |.c n=>n
 |.add a b=>a.af ae+b.af ae
 |.sub a b=>a.af ae-b.af ae
 |.mul a b=>a.af ae*b.af ae
 |.tdiv a b=>(a.af ae).tdiv (b.af ae)
 |.tmod a b=>(a.af ae).tmod (b.af ae)
 |.ediv a n=>a.af ae/(n:Int)
 |.emod a n=>a.af ae%(n:Int)
 |.shl a b=>a.af ae*2 ^ (b.af ae).toNat
 |.shr a b=>a.af ae/2 ^ (b.af ae).toNat
 |.wrap k a=>k.wrap (a.af ae)
 |.max a b=>Max.max (a.af ae) (b.af ae)
 |.min a b=>Min.min (a.af ae) (b.af ae)
 |.bits op k a b=>Go.bits op k (a.af ae) (b.af ae)
 |.len k=>((ae k).list.length:Int)
 |.get k i j=>cellAt (ae k).list (i.af ae) j
 |.jZ i n a b=>if i.af ae=(n:Int)then a.af ae else b.af ae
inductive BE where
 |v (k:Nat)
 |c (x:Bool)
 |lt (a b:IE)
 |le (a b:IE)
 |eq (a b:IE)
 |not (a:BE)
 |and (a b:BE)
 |or (a b:BE)
 |iff (a b:BE)
 |sP (a:IE)
 deriving DecidableEq,Repr,Inhabited
variable{G:BE}
def BE.af(ae:aH):BE->Bool
 |.v k=>(ae k).bool
 |.c x=>x
 |.lt a b=>decide (a.af ae<b.af ae)
 |.le a b=>decide (a.af ae<=b.af ae)
 |.eq a b=>decide (a.af ae=b.af ae)
 |.not a=>!(a.af ae)
 |.and a b=>a.af ae&&b.af ae
 |.or a b=>a.af ae||b.af ae
 |.iff a b=>a.af ae==b.af ae
 |.sP a=>decide (a.af ae≠0)
def IE.mk(e:IE):IE:=
 match e with
 |.add (.c a) (.c b)=>.c (a+b)
 |.add a (.c 0)=>a
 |.add (.c 0) a=>a
 |.sub (.c a) (.c b)=>.c (a-b)
 |.sub a (.c 0)=>a
 |.mul (.c a) (.c b)=>.c (a*b)
 |.mul (.c 1) a=>a
 |.mul a (.c 1)=>a
 |.tdiv (.c a) (.c b)=>.c (a.tdiv b)
 |.tmod (.c a) (.c b)=>.c (a.tmod b)
 |.ediv (.c a) n=>.c (a/(n:Int))
 |.emod (.c a) n=>.c (a%(n:Int))
 |.shl (.c a) (.c b)=>.c (a*2 ^ b.toNat)
 |.shr (.c a) (.c b)=>.c (a/2 ^ b.toNat)
 |.wrap k (.c a)=>.c (k.wrap a)
 |.max (.c a) (.c b)=>.c (Max.max a b)
 |.min (.c a) (.c b)=>.c (Min.min a b)
 |.bits op k (.c a) (.c b)=>.c (Go.bits op k a b)
 |.jZ (.c i) n a b=>if i=(n:Int)then a else b
 |e=>e
def BE.mk(e:BE):BE:=
 match e with
 |.lt (.c a) (.c b)=>.c (decide (a<b))
 |.le (.c a) (.c b)=>.c (decide (a<=b))
 |.eq (.c a) (.c b)=>.c (decide (a=b))
 |.not (.c a)=>.c (!a)
 |.not (.not a)=>a
 |.and (.c true) a=>a
 |.and (.c false) _=>.c false
 |.and a (.c true)=>a
 |.and _ (.c false)=>.c false
 |.or (.c false) a=>a
 |.or (.c true) _=>.c true
 |.or a (.c false)=>a
 |.or _ (.c true)=>.c true
 |.iff (.c true) a=>a
 |.iff a (.c true)=>a
 |.sP (.c a)=>.c (decide (a≠0))
 |e=>e
def BE.ji(G g:BE):Bool:=
 decide (g = .c true)||decide (G=g)||(match G with
   |.and x y=>x.ji g||y.ji g
   |_=>false)
def BE.under(G n:BE):BE:=if G = .c true then n else .or (.not G) n
def Yo(k:IntKind)(e:IE):BE:=
 match e with
 |.c n=>.c (decide (k.min<=n)&&decide (n<=k.max))
 |e=>.and (.le (.c k.min) e) (.le e (.c k.max))
inductive CK where
 |i (k:IntKind)
 |b
 |f
 deriving DecidableEq,Repr,Inhabited
inductive dx where
 |i (k:IntKind) (e:IE)
 |b (e:BE)
 |s (row:Nat)
 |lD
 deriving DecidableEq,Repr,Inhabited
inductive ai where
 |i (k:IntKind) (e:IE)
 |b (e:BE)
 |p (nJ off:Nat)
 |ep (row sz:Nat) (i:IE) (j:Nat)
 |pi (nJ off sz n:Nat) (x:IE)
 |s (row:Nat)
 |lD
 |VK
 |f (f:FuncId)
 |fn (g:FuncId) (dF:List (Bool×Nat))
 |fl (e:IE)
 |str (bs:List UInt8)
 |VL
 |I9
 |bf (g:FuncId) (agg:Bool) (ls:List dx)
 |vw (row sz:Nat) (lo n:IE)
 |cs (row:Nat)
 |bs (nJ n sz:Nat)
 |kb (row:Nat) (bytes:List UInt8)
 |ab (row i:Nat) (b:UInt8)
 deriving DecidableEq,Repr,Inhabited
def dx.up:dx->ai
 |.i k e=>.i k e
 |.b e=>.b e
 |.s r=>.s r
 |.lD=>.lD
def ai.down:ai->Option dx
 |.i k e=>some (.i k e)
 |.b e=>some (.b e)
 |.s r=>some (.s r)
 |.lD=>some .lD
 |_=>none
inductive V1 where
 |one (l:ai)
 |agg (ls:List ai)
 deriving DecidableEq,Repr,Inhabited
inductive SV where
 |v (x:V1)
 |IY (xs:List V1)
 deriving DecidableEq,Repr,Inhabited
structure Ph where
 r:Nat->Nat
 v:Nat->Option Addr×Nat×Nat
 z:Nat->Prop
def Ph.qf(ph:Ph)(k n:Nat):Ph:={ph with r:=fun j=>if j=k then n else ph.r j}
def Ph.xq(ph:Ph)(k:Nat)(x:Option Addr×Nat×Nat):Ph:={ph with v:=fun j=>if j=k then x else ph.v j}
def Ph.val(ph:Ph)(k:Nat):Value:=.slice (ph.v k).1 (ph.v k).2.1 (ph.v k).2.2
def dx.af(ae:aH)(ph:Ph):dx->Value
 |.i k e=>.int k (e.af ae)
 |.b e=>.bool (e.af ae)
 |.s row=>ph.val row
 |.lD=>.slice none 0 0
def mG(ph:Ph)(c:Bool×Nat):Value:=if c.1 then .pointer (ph.v c.2).1 else .pointer (some ⟨ph.r c.2,0,none⟩)
def ai.af(ae:aH)(ph:Ph):ai->Value
 |.i k e=>.int k (e.af ae)
 |.b e=>.bool (e.af ae)
 |.p id off=>.pointer (some ⟨ph.r id,off,none⟩)
 | .ep row sz x j=>match(ph.v row).1 with
   |some a=>.pointer (some (a.add ((x.af ae).toNat*sz+j)))
   |none=>.pointer none
 |.pi id off sz _ x=>.pointer (some ⟨ph.r id,off+(x.af ae).toNat*sz,none⟩)
 |.s row=>ph.val row
 |.lD=>.slice none 0 0
 |.VK=>.pointer none
 |.f g=>.func (.func g) #[] #[]
 |.fn g dF=>.func (.func g) #[] (dF.map (mG ph)).toArray
 |.fl e=>.float .f64 (e.af ae).toNat
 |.str bytes=>.string ⟨bytes.toArray⟩
 |.VL=>.nilFunc
 |.I9=>.nilIface
 |.bf g agg ls=>.func (.func g) #[if agg then .agg (ls.map (dx.af ae ph)).toArray else(ls.map (dx.af ae ph)).headD undef] #[]
 |.vw row sz lo n=>.slice (if(ph.v row).2.2=(lo.af ae).toNat then(ph.v row).1 else(ph.v row).1.map (·.add ((lo.af ae).toNat*sz))) (n.af ae).toNat ((ph.v row).2.2-(lo.af ae).toNat)
 |.cs row=>.slice (ph.v row).1 (ph.v row).2.1 (ph.v row).2.1
 |.bs id n _=>.slice (some ⟨ph.r id,0,none⟩) n n
 |.kb row _=>ph.val row
 | .ab row m _=>match(ph.v row).1 with
   |some a=>.pointer (some (a.add m))
   |none=>.pointer none
def V1.af(ae:aH)(ph:Ph):V1->Value
 |.one l=>l.af ae ph
 |.agg ls=>.agg (ls.map (ai.af ae ph)).toArray
def SV.af(ae:aH)(ph:Ph):SV->Value
 |.v x=>x.af ae ph
 |.IY xs=>.tuple (xs.map (V1.af ae ph)).toArray
structure aV where
 g:BE
 sv:SV
 deriving DecidableEq,Repr,Inhabited
def aV.af(ae:aH)(ph:Ph)(s:aV):Value:=if s.g.af ae then s.sv.af ae ph else undef
structure iQ where
 id:Nat
 ty:TypeId
 cells:List ai
 deriving DecidableEq,Repr,Inhabited
structure Row where
 id:Nat
 e:TypeId
 ks:List CK
 lv:Nat
 own:Bool
 g:BE
 deriving DecidableEq,Repr,Inhabited
inductive NK where
 |c (k:CK)
 |s (e:TypeId) (k:CK)
 deriving DecidableEq,Repr,Inhabited
structure ej where
 id:Nat
 e:TypeId
 aO:List NK
 lv:Nat
 g:BE
 own:Bool
 deriving DecidableEq,Repr,Inhabited
structure St where
 tmps:List (Option aV)
 aY:List iQ
 rows:List Row
 a7:List ej:=[]
 next:Nat
 qd:List (Nat×Nat)
 deriving DecidableEq,Repr,Inhabited
def St.has(st:St)(k:Nat):Bool:=decide (k<st.next)||st.qd.any fun d=>decide (d.1<=k)&&decide (k<d.2)
def St.free(st:St)(a n:Nat):Bool:=decide (st.next<=a)&&st.qd.all fun d=>decide (a+n<=d.1)||decide (d.2<=a)
def yG(d:Nat×Nat):List (Nat×Nat)->List (Nat×Nat)
 | []=>[d]
 |x::xs=>if x.1<d.1 then d::x::xs else x::yG d xs
def St.bC(st:St)(a n:Nat):St:={st with qd:=yG (a,a+n) st.qd}
def IE.all(p:Nat->Bool):IE->Bool
 |.v k| .len k=>p k
 |.c _=>true
 |.add a b| .sub a b| .mul a b| .tdiv a b| .tmod a b| .shl a b| .shr a b| .max a b| .min a b| .bits _ _ a b=>a.all p&&b.all p
 |.ediv a _| .emod a _| .wrap _ a=>a.all p
 |.get k i _=>p k&&i.all p
 |.jZ i _ a b=>i.all p&&(a.all p&&b.all p)
def BE.all(p:Nat->Bool):BE->Bool
 |.v k=>p k
 |.c _=>true
 |.lt a b| .le a b| .eq a b=>a.all p&&b.all p
 |.not a=>a.all p
 |.and a b| .or a b| .iff a b=>a.all p&&b.all p
 |.sP a=>a.all p
def dx.all(p:Nat->Bool):dx->Bool
 |.i _ e=>e.all p
 |.b e=>e.all p
 |.s row=>p row
 |.lD=>true
def ai.all(p:Nat->Bool):ai->Bool
 |.i _ e=>e.all p
 |.b e=>e.all p
 |.p id _=>p id
 |.ep row _ x _=>p row&&x.all p
 |.pi id _ _ _ x=>p id&&x.all p
 |.s row=>p row
 |.lD| .VK| .f _=>true
 |.fn _ dF=>dF.all fun c=>p c.2
 |.fl e=>e.all p
 |.str _| .VL| .I9=>true
 |.bf _ _ ls=>ls.all (dx.all p)
 |.vw row _ lo n=>p row&&(lo.all p&&n.all p)
 |.cs row=>p row
 |.bs id _ _=>p id
 |.kb row _=>p row
 |.ab row _ _=>p row
def bt(p:Nat->Bool):List ai->Bool
 | []=>true
 |l::ls=>l.all p&&bt p ls
def V1.all(p:Nat->Bool):V1->Bool
 |.one l=>l.all p
 |.agg ls=>bt p ls
def dH(p:Nat->Bool):List V1->Bool
 | []=>true
 |x::xs=>x.all p&&dH p xs
def SV.all(p:Nat->Bool):SV->Bool
 |.v x=>x.all p
 |.IY xs=>dH p xs
def aV.all(p:Nat->Bool)(s:aV):Bool:=s.g.all p&&s.sv.all p
def iQ.all(p:Nat->Bool)(b:iQ):Bool:=p b.id&&bt p b.cells
def Row.all(p:Nat->Bool)(r:Row):Bool:=p r.id&&(p r.lv&&r.g.all p)
def ej.all(p:Nat->Bool)(r:ej):Bool:=p r.id&&(p r.lv&&r.g.all p)
inductive CT where
 |c (k:CK)
 |s (e:TypeId) (ks:List CK)
 |n (e:TypeId) (aO:List NK)
 deriving DecidableEq,Repr,Inhabited
inductive VT where
 |one (c:CT)
 |agg (cs:List CT)
 |ptr (e:TypeId) (ks:List CK)
 |fn (g:FuncId) (cs:List (TypeId×IntKind))
 deriving DecidableEq,Repr,Inhabited
structure bW where
 args:List VT
 res:List VT
 cons:Nat:=0
 deriving DecidableEq,Repr,Inhabited
inductive DE where
 |i (e:IE)
 |b (e:BE)
 |l (k:Nat)
 |nil
 |rows (es:List IE)
 |vu (xs:List (Sum IE BE))
 deriving DecidableEq,Repr,Inhabited
def b7(ae:aH):Sum IE BE->Int
 |.inl e=>e.af ae
 |.inr b=>if b.af ae then 1 else 0
def DE.af(ae:aH):DE->DV
 |.i e=>.i (e.af ae)
 |.b e=>.b (e.af ae)
 |.l k=>.l (ae k).list
 |.nil=>.l []
 |.rows es=>.l (es.map fun e=>[e.af ae])
 |.vu xs=>.l [xs.map (b7 ae)]
def VT.bL:VT->List CT
 |.one c=>[c]
 |.agg cs=>cs
 |.ptr e ks=>[.s e ks]
 |.fn _ cs=>cs.map fun c=>.s c.1 [.i c.2]
def bL(vs:List VT):List CT:=vs.flatMap VT.bL
inductive bU where
 |c (x:Sum IE BE)
 |s (lv:Nat)
 |nil
 deriving DecidableEq,Repr,Inhabited
def bU.head(ae:aH):bU->Int
 |.c x=>b7 ae x
 |.s lv=>((ae lv).list.length:Int)
 |.nil=>0
def bU.tail(ae:aH):bU->List Int
 |.s lv=>(ae lv).list.map fun r=>r.getD 0 0
 |_=>[]
inductive dw where
 |lit (rows:List (List (Sum IE BE)))
 |app (a b:Nat)
 |set (a:Nat) (i:IE) (j:Nat) (x:Sum IE BE)
 |C8 (a:Nat) (i:IE) (xs:List (Sum IE BE))
 |Da (a:Nat) (i:IE) (j:Nat) (xs:List (Sum IE BE))
 |take (a:Nat) (n:IE)
 |rep (n:IE) (row:List Int)
 |cp (a:Nat)
 |sub (a:Nat) (i:IE) (aO:List NK) (j:Nat)
 |P2 (a b:Nat)
 |Bi (rows:List (List bU))
 deriving DecidableEq,Repr,Inhabited
def oV:List NK->List Int->List Int->Nat->List Int
 | [],_,_,_=>[]
 |.c _::_,_,_,0=>[]
 |.c _::aO,hs,rest,j+1=>oV aO hs.tail rest j
 |.s _ _::_,hs,rest,0=>rest.take (hs.headD 0).toNat
 |.s _ _::aO,hs,rest,j+1=>oV aO hs.tail (rest.drop (hs.headD 0).toNat) j
def ij(aO:List NK)(r:List Int)(j:Nat):List Int:=oV aO (r.take aO.length) (r.drop aO.length) j
def lV(r:List Int)(j:Nat)(x:Int):List Int:=if j<r.length then r.set j x else r++(List.replicate (j-r.length) 0++[x])
def iR(r:List Int)(j:Nat):List Int->List Int
 | []=>r
 |x::xs=>iR (lV r j x) (j+1) xs
def setAt(xs:List (List Int))(i:Int)(j:Nat)(x:Int):List (List Int):=xs.modify i.toNat (fun r=>lV r j x)
def dw.af(ae:aH):dw->List (List Int)
 |.lit rows=>rows.map fun r=>r.map (b7 ae)
 |.app a b=>(ae a).list++(ae b).list
 |.set a i j x=>setAt (ae a).list (i.af ae) j (b7 ae x)
 |.C8 a i xs=>(ae a).list.modify (i.af ae).toNat (fun _=>xs.map (b7 ae))
 |.Da a i j xs=>(ae a).list.modify (i.af ae).toNat (fun r=>iR r j (xs.map (b7 ae)))
 |.take a n=>(ae a).list.take (n.af ae).toNat
 |.rep n row=>List.replicate (n.af ae).toNat row
 |.cp a=>(ae a).list
 |.sub a i aO j=>(ij aO ((ae a).list.getD (i.af ae).toNat []) j).map fun x=>[x]
 |.P2 a b=>(ae b).list.take (ae a).list.length++(ae a).list.drop (ae b).list.length
 |.Bi rows=>rows.map fun r=>r.map (bU.head ae)++r.flatMap (bU.tail ae)
inductive Ev where
 |aL (p:BE)
 |call (f:FuncId) (g:BE) (args:List DE) (res:List VT) (base:Nat)
 |cH (id:Nat) (op:dw)
 |dB (p:BE) (e:IE)
 deriving DecidableEq,Repr,Inhabited
inductive au where
 |ret (bP:List DE)
 |stuck (why:String)
 |ev (e:Ev) (t:au)
 |ite (c:BE) (t e:au)
 |loop (id:Nat) (entry:List DE) (ks:List CT) (base:Nat) (body:au)
 |again (id:Nat) (bP:List DE)
 |fail (e:IE)
 |fO (x:Nat) (tp t:au)
 |pop (t:au)
 deriving DecidableEq,Repr,Inhabited
structure Hint where
 cells:List (Nat×Nat)
 rows:List (Nat×TypeId×List CK)
 fi:List Nat:=[]
 a7:List (Nat×TypeId×List NK):=[]
 adn:List (Nat×Nat×TypeId×List CK):=[]
 deriving Inhabited
structure kS where
 sig:FuncId->Option bW
 gI:Bool
 loops:List (Nat×Hint)
 splits:List (Nat×Nat×Nat)
 inl:List FuncId:=[]
 aL:Option FuncId:=none
 yS:Option FuncId:=none
 cZ:TypeId:=0
 qh:TypeId:=0
 Yt:List (Nat×List Nat×List Nat):=[]
 Hp:List Nat:=[]
 zN:List (Nat×List Int):=[]
 fc:Option St:=none
 Au:Option FuncId:=none
 bsl:List TypeId:=[]
 Ff:Option (Nat×Nat):=none
 no:List (Nat×Int):=[]
 deriving Inhabited
def A7(P:Program)(g:TypeId->Option (List CK)):Nat->List Field->Option (List CK)
 |_,[]=>some []
 | off,f::fs=>if f.offset=off then(match g f.type with
   | some m=>if P.cellsOf f.type=m.length/\0<m.length then(match A7 P g (off+m.length) fs with
     |some r=>some (m++r)
     |none=>none)else none
   |none=>none)else none
def flat(P:Program):Nat->TypeId->Option (List CK)
 |0,_=>none
 | n+1,t=>
   match P.underlying t with
   |some (.int k)=>some [.i k]
   |some .bool=>some [.b]
   |some (.struct fs)=>A7 P (flat P n) 0 fs.toList
   | some (.array len e)=>match flat P n e with
     |some m=>if P.cellsOf e=m.length/\0<m.length then some (List.replicate len m).flatten else none
     |none=>none
   |_=>none
def gO(P:Program)(t:TypeId):Bool:=
 match P.underlying t with
 |some (.struct _)|some (.array _ _)=>true
 |_=>false
def ofConst:Value->Option V1
 |.int k n=>some (.one (.i k (.c n)))
 |.bool x=>some (.one (.b (.c x)))
 |.slice none 0 0=>some (.one .lD)
 |.string s=>some (.one (.str s.data.toList))
 |.nilIface=>some (.one .I9)
 |_=>none
def MW(st:St)(G:BE):Operand->Option SV
 | .tmp t=>match st.tmps[t]? with
   |some (some s)=>if G.ji s.g then some s.sv else none
   |_=>none
 |.const v=>(ofConst v).map SV.v
 |.func f=>some (.v (.one (.f f)))
 |.global _=>none
def lL(st:St)(G:BE)(x:Operand):Option V1:=
 match MW st G x with
 |some (.v x)=>some x
 |_=>none
def bB(st:St)(G:BE)(x:Operand):Option ai:=
 match MW st G x with
 |some (.v (.one l))=>some l
 |_=>none
def Py(wr:Bool)(k:IntKind)(e:IE):List BE×ai:=
 match e with
 |.c n=>([],.i k (.c (k.wrap n)))
 |e=>if wr then([],.i k (.wrap k e))else([Yo k e],.i k e)
def arith(wr:Bool)(k:IntKind)(e:IE):List BE×ai:=Py wr k e.mk
def A4:Nat->Int->Option Nat
 |0,_=>none
 |m+1,n=>if n+1=((2 ^ m:Nat):Int)then some m else A4 m n
def Pz(wr:Bool)(op:BinOp)(x y:ai):Option (List BE×ai):=
 match op,x,y with
 |.shl,.i k a,.i _ (.c n)=>if 0<=n/\n<=62/\n<=k.bits then some (arith wr k (.mul a (.c ((2 ^ n.toNat:Nat):Int))))else none
 |.shl,.i k a,.i _ b=>let r:=arith wr k (.shl a b);some ((BE.le (.c 0) b).mk::(BE.le b (.c (k.bits:Int))).mk::r.1,r.2)
 |.shr,.i k a,.i _ (.c n)=>if 0<=n/\n<=64/\n<=k.bits then some ([],.i k (IE.ediv a (2 ^ n.toNat)).mk)else none
 |.shr,.i k a,.i _ b=>some ([(BE.le (.c 0) b).mk,(BE.le b (.c (k.bits:Int))).mk],.i k (IE.shr a b).mk)
 |.add,.i k a,.i k' b=>if k=k' then some (arith wr k (.add a b))else none
 |.sub,.i k a,.i k' b=>if k=k' then some (arith wr k (.sub a b))else none
 |.mul,.i k a,.i k' b=>if k=k' then some (arith wr k (.mul a b))else none
 |.quo,.i k a,.i k' b=>if k=k' then let r:=arith wr k (.tdiv a b);some ((BE.sP b).mk::r.1,r.2)else none
 |.rem,.i k a,.i k' b=>if k=k' then some ([(BE.sP b).mk],.i k (IE.tmod a b).mk)else none
 |.and,.i k a,.i k' (.c n)=>if k=k' then(match k,A4 63 n with
     |.i64,some m=>some ([],.i k (IE.emod a (2 ^ m)).mk)
     |.u64,some m=>some ([],.i k (IE.emod a (2 ^ m)).mk)
     |_,_=>some ([],.i k (IE.bits .and k a (.c n)).mk))else none
 |.and,.i k a,.i k' b=>if k=k' then some ([],.i k (IE.bits .and k a b).mk)else none
 |.or,.i k a,.i k' b=>if k=k' then some ([],.i k (IE.bits .or k a b).mk)else none
 |.xor,.i k a,.i k' b=>if k=k' then some ([],.i k (IE.bits .xor k a b).mk)else none
 |.andNot,.i k a,.i k' b=>if k=k' then some ([],.i k (IE.bits .andNot k a b).mk)else none
 |.lss,.i k a,.i k' b=>if k=k' then some ([],.b (BE.lt a b).mk)else none
 |.leq,.i k a,.i k' b=>if k=k' then some ([],.b (BE.le a b).mk)else none
 |.gtr,.i k a,.i k' b=>if k=k' then some ([],.b (BE.lt b a).mk)else none
 |.geq,.i k a,.i k' b=>if k=k' then some ([],.b (BE.le b a).mk)else none
 |.eql,.i k a,.i k' b=>if k=k' then some ([],.b (BE.eq a b).mk)else none
 |.neq,.i k a,.i k' b=>if k=k' then some ([],.b (BE.not (BE.eq a b).mk).mk)else none
 |_,_,_=>none
def Jd:ai->ai->Option BE
 |.i k a,.i k' b=>if k=k' then some (BE.eq a b).mk else none
 |.b a,.b b=>some (BE.iff a b).mk
 |_,_=>none
def rF:List ai->List ai->Option BE
 | [],[]=>some (.c true)
 | x::xs,y::ys=>match Jd x y,rF xs ys with
   |some p,some q=>some (BE.and p q).mk
   |_,_=>none
 |_,_=>none
def fits:CK->ai->Bool
 |.i k,.i k' _=>decide (k=k')
 |.b,.b _=>true
 |.f,.fl _=>true
 |_,_=>false
def rD:List CK->List ai->Bool
 | [],[]=>true
 |k::ks,l::ls=>fits k l&&rD ks ls
 |_,_=>false
def ZH(P:Program)(t:TypeId)(x y:V1):Option BE:=
 match x,y with
 | .one (.b a),.one (.b b)=>match P.underlying t with
   |some .bool=>some (BE.iff a b).mk
   |_=>none
 | .agg xs,.agg ys=>match flat P 16 t with
   |some ks=>if rD ks xs&&rD ks ys&&gO P t && !P.eqGuardType P.depth t && !yA P 16 t then rF xs ys else none
   |none=>none
 |_,_=>none
where
 yA (P:Program):Nat->TypeId->Bool
   |0,_=>true
   | n+1,t=>match P.underlying t with
     |some (.struct fs)=>P.stoodInHeld t||fs.toList.any fun f=>f.name == "_" ||yA P n f.type
     |some (.array _ e)=>yA P n e
     |_=>false
def gB(st:St)(id:Nat):Option iQ:=st.aY.find? (fun b=>b.id==id)
def bJ(st:St)(id:Nat):Option Row:=st.rows.find? (fun r=>r.id==id)
def fh(st:St)(id:Nat):Option ej:=st.a7.find? (fun r=>r.id==id)
def rG(lv:Nat)(i:IE)(j:Nat):CK->ai
 |.i k=>.i k (.get lv i j)
 |.b=>.b (.sP (.get lv i j))
 |.f=>.fl (.get lv i j)
def nK(lv:Nat)(i:IE):Nat->List CK->List ai
 |_,[]=>[]
 |j,k::ks=>rG lv i j k::nK lv i (j+1) ks
def Je(ls:List ai)(off n:Nat):Option (List ai):=if off+n<=ls.length then some ((ls.drop off).take n)else none
def td(P:Program)(t:TypeId)(cs:List ai)(off:Nat):Option V1:=
 if(P.underlying t).isSome&&decide (0<P.cellsOf t)then
   (if gO P t then(Je cs off (P.cellsOf t)).map V1.agg else(cs[off]?).map V1.one)
 else none
def uN(x:IE):Nat->List ai->Option ai
 |_,[]=>none
 |_,[l]=>some l
 | j,l::ls=>match l,uN x (j+1) ls with
   |.i k a,some (.i k' b)=>if k=k' then some (.i k (.jZ x j a b))else none
   |.b p,some (.b q)=>some (.b (.or (.and (.eq x (.c (j:Int))) p) (.and (.not (.eq x (.c (j:Int)))) q)))
   |_,_=>none
def te(cells:List ai)(off sz:Nat):Nat->Option (List ai)
 |0=>some []
 | n+1=>match cells[off]?,te cells (off+sz) sz n with
   |some l,some ls=>some (l::ls)
   |_,_=>none
def G5(cells:List ai)(off sz n:Nat)(x:IE):Option ai:=
 match te cells off sz n with
 |some ls=>uN x 0 ls
 |none=>none
def tf(cells:List ai)(sz n:Nat)(x:IE):Nat->Nat->Option (List ai)
 |_,0=>some []
 | off,m+1=>match G5 cells off sz n x,tf cells sz n x (off+1) m with
   |some l,some ls=>some (l::ls)
   |_,_=>none
def PC(P:Program)(t:TypeId)(r:Row)(i:IE)(j:Nat):Option (List BE×V1):=
 match r.ks,i,j with
 | [k],.c (.ofNat n),0=>if(P.underlying t).isSome&&decide (0<P.cellsOf t)&&gO P t then
     some ([(BE.le (.c ((n+P.cellsOf t:Nat):Int)) (.len r.lv)).mk],.agg ((List.range (P.cellsOf t)).map fun(q:Nat)=>rG r.lv (.c ((n+q:Nat):Int)) 0 k))else none
 |_,_,_=>none
def DQ(P:Program)(st:St)(G:BE)(t:TypeId):ai->Option (List BE×V1)
 | .p id off=>match gB st id with
   |some b=>(td P t b.cells off).map fun v=>([],v)
   |none=>none
 | .pi id off sz n x=>match gB st id with
   |some b=>if !((P.underlying t).isSome&&decide (0<P.cellsOf t))then none else if gO P t then(tf b.cells sz n x off (P.cellsOf t)).map fun ls=>([(BE.le (.c 0) x).mk,(BE.lt x (.c (n:Int))).mk],V1.agg ls)
       else(G5 b.cells off sz n x).map fun l=>([(BE.le (.c 0) x).mk,(BE.lt x (.c (n:Int))).mk],V1.one l)
   |none=>none
 | .ep row sz i j=>match bJ st row with
   |some r=>if G.ji r.g&&decide (r.ks.length=sz)then
       (match td P t (nK r.lv i 0 r.ks) j with
       |some v=>some ([(BE.le (.c 0) i).mk,(BE.lt i (.len r.lv)).mk],v)
       |none=>PC P t r i j)else none
   |none=>none
 | .ab row i b=>match bJ st row with
   |some r=>if G.ji r.g&&decide (r.ks=[.i .u8])&&(P.underlying t).isSome&&decide (P.cellsOf t=1) && !gO P t then
       some ([(BE.lt (.c (i:Int)) (.len r.lv)).mk,(BE.eq (.get r.lv (.c (i:Int)) 0) (.c (b.toNat:Int))).mk],.one (.i .u8 (.c (b.toNat:Int))))else none
   |none=>none
 |_=>none
def E1(row sz:Nat)(i:IE)(j o:Nat):ai:=
 match sz,i,j with
 |1,.c (.ofNat n),0=>.ep row 1 (.c ((n+o:Nat):Int)) 0
 |_,_,_=>.ep row sz i (j+o)
def tk(P:Program)(s:TypeId)(f:Nat):Option (Nat×TypeId):=
 match P.underlying s with
 | some (.struct fs)=>match fs[f]? with
   |some fd=>if P.cellsOf fd.type=0 then none else some (fd.offset,fd.type)
   |none=>none
 |_=>none
def PH(P:Program)(st:St)(G:BE)(t:TypeId)(x:ai)(k:IntKind)(i:IE):Option (List BE×ai):=
 match P.underlying t,x with
 | some (.array len e),.p id off=>match i with
   |.c n=>if 0<=n/\n<(len:Int)/\1<len/\(P.info? e).isSome=true then some ([],.p id (off+n.toNat*P.cellsOf e))else none
   |x=>if 1<len/\(P.info? e).isSome=true then some ([(BE.le (.c 0) x).mk,(BE.lt x (.c (len:Int))).mk],.pi id off (P.cellsOf e) len x)else none
 | some (.array len e),.ep row sz r j=>match bJ st row with
   |some rr=>if r = .c 0/\j=0/\rr.ks.length=sz/\P.cellsOf e=sz/\(P.info? e).isSome=true/\1<len/\G.ji rr.g=true then
       some ([(BE.le (.c 0) i).mk,(BE.lt i (.c (len:Int))).mk,(BE.lt i (.len rr.lv)).mk],.ep row sz i 0)else(match i with
   | .c n=>match bJ st row with
     |some rr=>if 0<=n/\n<(len:Int)/\1<len/\(P.info? e).isSome=true/\G.ji rr.g=true then some ([(BE.le (.c 0) r).mk,(BE.lt r (.len rr.lv)).mk],.ep row sz r (j+n.toNat*P.cellsOf e))else none
     |none=>none
   |_=>none)
   |none=>none
 | some (.slice e),.s row=>match bJ st row with
   |some r=>if G.ji r.g&&decide (P.cellsOf e=r.ks.length)then some ([(BE.le (.c 0) i).mk,(BE.lt i (.len r.lv)).mk],.ep row r.ks.length i 0)else none
   | none=>match fh st row with
     |some r=>if G.ji r.g&&decide (P.cellsOf e=r.aO.length)then some ([(BE.le (.c 0) i).mk,(BE.lt i (.len r.lv)).mk],.ep row r.aO.length i 0)else none
     |none=>none
 | some (.slice e),.vw row sz lo n=>match bJ st row with
   |some r=>if G.ji r.g&&decide (P.cellsOf e=sz)&&decide (r.ks.length=sz)then some ([(BE.le (.c 0) i).mk,(BE.lt i n).mk,(BE.le (.c 0) lo).mk,(BE.le (.add lo n) (.len r.lv)).mk],.ep row sz (IE.add lo i).mk 0)else none
   |none=>none
 | some (.slice e),.kb row bs=>match bJ st row with
   | some r=>if G.ji r.g&&decide (P.cellsOf e=1)&&decide (r.ks.length=1)then(match i with
     |.c m=>if 0<=m then(bs[m.toNat]?).map fun b=>([(BE.lt (.c m) (.len r.lv)).mk],.ab row m.toNat b)else none
     |_=>none)else none
   |none=>none
 | some (.slice e),.bs id n sz=>if decide (P.cellsOf e=sz)&&(P.info? e).isSome then(match i with
   |.c m=>if 0<=m/\m<(n:Int)then some ([],.p id (m.toNat*sz))else none
   |x=>some ([(BE.le (.c 0) x).mk,(BE.lt x (.c (n:Int))).mk],.pi id 0 sz n x))else none
 |_,_=>none
def iY(cells:List ai)(off:Nat):List ai->List ai
 | []=>cells
 |l::ls=>iY (cells.set off l) (off+1) ls
def V1.leaves:V1->List ai
 |.one l=>[l]
 |.agg ls=>ls
def DS(place:Nat->Option (Nat×Nat))(cells:List ai):List (Nat×V1)->Option (List ai)
 | []=>some cells
 | (i,v)::rest=>match place i with
   |none=>none
   | some (off,size)=>if v.leaves.length≠size\/off+v.leaves.length>cells.length then none
     else DS place (iY cells off v.leaves) rest
def ti:Value->Option ai
 |.int k n=>some (.i k (.c n))
 |.bool x=>some (.b (.c x))
 |.slice none 0 0=>some .lD
 |.pointer none=>some .VK
 |.nilFunc=>some .VL
 |.nilIface=>some .I9
 |.string s=>some (.str s.data.toList)
 |_=>none
def qE(P:Program)(t:TypeId):Option V1:=
 match(P.info? t).bind (·.zero)with
 |some (.agg cs)=>(cs.toList.mapM ti).map V1.agg
 |some v=>(ti v).map V1.one
 |none=>none
def vZ(P:Program)(t:TypeId):Option (Nat->Option (Nat×Nat)):=
 match P.underlying t with
 |some (.struct fs)=>if fs.toList.all (fun f=>(P.info? f.type).isSome)then some fun i=>(fs[i]?).map fun f=>(f.offset,P.cellsOf f.type)else none
 |some (.array _ e)=>if(P.info? e).isSome then some fun i=>some (i*P.cellsOf e,P.cellsOf e)else none
 |_=>none
def iH(st:St)(G:BE):List (Nat×Operand)->Option (List (Nat×V1))
 | []=>some []
 | (i,x)::rest=>match lL st G x,iH st G rest with
   |some v,some l=>some ((i,v)::l)
   |_,_=>none
def l7(st:St)(G:BE):List Operand->Option (List V1)
 | []=>some []
 | x::rest=>match lL st G x,l7 st G rest with
   |some v,some l=>some (v::l)
   |_,_=>none
def tj(st:St)(G:BE):List Operand->Option (List (Bool×Nat))
 | []=>some []
 | x::rest=>match bB st G x,tj st G rest with
   |some (.p id 0),some l=>some ((false,id)::l)
   |some (.ep row 1 (.c 0) 0),some l=>some ((true,row)::l)
   |_,_=>none
def G7:List ai->Option (List dx)
 | []=>some []
 | l::ls=>match l.down,G7 ls with
   |some x,some xs=>some (x::xs)
   |_,_=>none
def isConst:Operand->Bool
 |.const _=>true
 |_=>false
def VQ(P:Program)(st:St)(G:BE)(t:TypeId)(X Y:Operand)(x y:V1):Option (List BE×BE):=
 match x,y with
 | .one .lD,.one .lD=>match P.underlying t with
   |some (.slice _)=>some ([],.c true)
   |_=>none
 | .one (.s row),.one .lD=>match P.underlying t,bJ st row with
   |some (.slice _),some r=>if G.ji r.g then some ([(BE.lt (.c 0) (.len r.lv)).mk],.c false)else none
   |_,_=>none
 | .one (.str a),.one (.str b)=>match P.underlying t with
   |some .string=>some ([],.c (decide (a=b)))
   |_=>none
 | .one .I9,.one .I9=>match P.underlying t with
   |some (.interface _)=>if isConst X||isConst Y then some ([],.c true)else none
   |_=>none
 |_,_=>none
def ZM(P:Program)(wr:Bool)(st:St)(G:BE)(op:Op):Option (List BE×SV):=
 match op with
 |.move x| .assign x=>(MW st G x).map fun v=>([],v)
 | .pick c a b=>match bB st G c with
   | some (.b p)=>match bB st (BE.and G p).mk a,bB st (BE.and G (BE.not p).mk).mk b with
     |some (.b x),some (.b y)=>some ([],.v (.one (.b (match y,x with
         |.c false,x=>(BE.and p x).mk
         |y,.c true=>(BE.or p y).mk
         |y,x=>(BE.or (BE.and p x).mk (BE.and (BE.not p).mk y).mk).mk))))
     |_,_=>none
   |_=>none
 | .binOp .eql t x y _=>match lL st G x,lL st G y with
   |some (.one (.i k a)),some (.one (.i k' b))=>(Pz wr .eql (.i k a) (.i k' b)).map fun r=>(r.1,.v (.one r.2))
   | some u,some v=>match VQ P st G t x y u v with
     |some r=>some (r.1,.v (.one (.b r.2)))
     |none=>(ZH P t u v).map fun p=>([],.v (.one (.b p)))
   |_,_=>none
 | .binOp .neq t x y _=>match lL st G x,lL st G y with
   |some (.one (.i k a)),some (.one (.i k' b))=>(Pz wr .neq (.i k a) (.i k' b)).map fun r=>(r.1,.v (.one r.2))
   | some u,some v=>match VQ P st G t x y u v with
     |some r=>some (r.1,.v (.one (.b (BE.not r.2).mk)))
     |none=>(ZH P t u v).map fun p=>([],.v (.one (.b (BE.not p).mk)))
   |_,_=>none
 | .binOp op _ x y _=>match bB st G x,bB st G y with
   |some a,some b=>(Pz wr op a b).map fun r=>(r.1,.v (.one r.2))
   |_,_=>none
 | .unOp .not _ x=>match bB st G x with
   |some (.b p)=>some ([],.v (.one (.b (BE.not p).mk)))
   |_=>none
 | .unOp .neg _ x=>match bB st G x with
   |some (.i k a)=>let r:=arith wr k (.sub (.c 0) a);some (r.1,.v (.one r.2))
   |_=>none
 | .convert src dst x=>match bB st G x,P.underlying src,P.underlying dst with
   | some (.i k a),some _,some (.int k')=>
     if k=k'||(decide (k' = .i64)&&decide (k≠.u64))then(let r:=arith wr k' a;some (r.1,.v (.one r.2)))
     else some ([],.v (.one (.i k' (IE.wrap k' a).mk)))
   |_,_,_=>none
 | .load t x=>match bB st G x with
   |some l=>(DQ P st G t l).map fun r=>(r.1,.v r.2)
   |none=>none
 | .fieldAddr s x f=>match bB st G x,tk P s f with
   |some (.p id off),some (o,_)=>some ([],.v (.one (.p id (off+o))))
   |some (.pi id off sz n y),some (o,_)=>some ([],.v (.one (.pi id (off+o) sz n y)))
   | some (.ep row sz i j),some (o,_)=>match bJ st row with
     |some r=>if G.ji r.g then some ([(BE.le (.c 0) i).mk,(BE.lt i (.len r.lv)).mk],.v (.one (E1 row sz i j o)))else none
     | none=>match fh st row with
       |some r=>if G.ji r.g then some ([(BE.le (.c 0) i).mk,(BE.lt i (.len r.lv)).mk],.v (.one (.ep row sz i (j+o))))else none
       |none=>none
   |_,_=>none
 | .field s x f=>match lL st G x,tk P s f with
   |some (.agg cs),some (o,t)=>(td P t cs o).map fun v=>([],.v v)
   |_,_=>none
 | .indexAddr t x i=>match bB st G x,bB st G i with
   |some l,some (.i k e)=>(PH P st G t l k e).map fun r=>(r.1,.v (.one r.2))
   |_,_=>none
 | .index t x i=>match lL st G x,bB st G i,P.underlying t with
   | some (.agg cs),some (.i _ (.c n)),some (.array len e)=>
     if 0<=n/\n<(len:Int)then(td P e cs (n.toNat*P.cellsOf e)).map fun v=>([],.v v)else none
   | some (.agg cs),some (.i _ x),some (.array len e)=>
     if(P.underlying e).isSome && !gO P e&&decide (P.cellsOf e=1)&&decide (cs.length=len)then(G5 cs 0 1 len x).map fun l=>([(BE.le (.c 0) x).mk,(BE.lt x (.c (len:Int))).mk],.v (.one l))else none
   | some (.one (.str bs)),some (.i _ (.c n)),some .string=>
     if 0<=n then(bs[n.toNat]?).map fun b=>([],.v (.one (.i .u8 (.c (b.toNat:Int)))))else none
   |_,_,_=>none
 | .nilCheck x=>match bB st G x with
   |some (.p id off)=>some ([],.v (.one (.p id off)))
   | some (.ep row sz i j)=>match bJ st row with
     |some r=>if G.ji r.g then some ([(BE.lt (.c 0) (.len r.lv)).mk],.v (.one (.ep row sz i j)))else none
     |none=>none
   |_=>none
 | .makeFunc (.func g) first captured=>match first.toList with
   | []=>(tj st G captured.toList).map fun dF=>([],.v (.one (.fn g dF)))
   | [x]=>if captured.toList=[]then(match lL st G x with
     |some (.one l)=>l.down.map fun l=>([],.v (.one (.bf g false [l])))
     |some (.agg ls)=>(G7 ls).map fun ls=>([],.v (.one (.bf g true ls)))
     |none=>none)else none
   |_=>none
 | .slice t x low high cap=>match P.underlying t,bB st G x with
   | some (.slice e),some (.s row)=>match bJ st row with
     | some r=>if G.ji r.g&&decide (P.cellsOf e=r.ks.length)&&decide (r.e=e)&&(P.info? e).isSome then(match low,high,cap with
       | some l,none,none=>match bB st G l with
         |some (.i _ lo)=>some ([(BE.le (.c 0) lo).mk,(BE.le lo (.len r.lv)).mk],.v (.one (.vw row r.ks.length lo (IE.sub (.len r.lv) lo).mk)))
         |_=>none
       | some l,some h,none=>match bB st G l,bB st G h with
         |some (.i _ lo),some (.i _ hi)=>some ([(BE.le (.c 0) lo).mk,(BE.le lo hi).mk,(BE.le hi (.len r.lv)).mk],.v (.one (.vw row r.ks.length lo (IE.sub hi lo).mk)))
         |_,_=>none
       | none,some h,some m=>match bB st G h,bB st G m with
         |some (.i _ hi),some (.i _ mx)=>some ([(BE.eq hi (.len r.lv)).mk,(BE.eq mx (.len r.lv)).mk],.v (.one (.cs row)))
         |_,_=>none
       |_,_,_=>none)else none
     |none=>none
   | some .string,some (.str bs)=>match low,high,cap with
     | some l,none,none=>match bB st G l with
       |some (.i _ (.c lo))=>if 0<=lo/\lo<=(bs.length:Int)then some ([],.v (.one (.str (bs.drop lo.toNat))))else none
       |_=>none
     | none,some h,none=>match bB st G h with
       |some (.i _ (.c hi))=>if 0<=hi/\hi<=(bs.length:Int)then some ([],.v (.one (.str (bs.take hi.toNat))))else none
       |_=>none
     |_,_,_=>none
   |_,_=>none
 |.sliceToArrayPointer t x=>match P.underlying t with
     | some (.array len e)=>if 0<len/\P.cellsOf e=1 then(match bB st G x with
       | some (.s row)=>match bJ st row with
         |some r=>if G.ji r.g&&decide (r.ks.length=1)then some ([(BE.le (.c (len:Int)) (.len r.lv)).mk],.v (.one (.ep row 1 (.c 0) 0)))else none
         |none=>none
       | some (.vw row 1 lo n)=>match bJ st row with
         |some r=>if G.ji r.g&&decide (r.ks.length=1)then some ([(BE.le (.c (len:Int)) n).mk,(BE.le (.c 0) lo).mk,(BE.le (.add lo n) (.len r.lv)).mk],.v (.one (.ep row 1 lo 0)))else none
         |none=>none
       |_=>none)else none
     |_=>none
 | .extract x n=>match MW st G x with
   |some (.IY xs)=>(xs[n]?).map fun v=>([],.v v)
   |_=>none
 | .build t parts=>match qE P t,vZ P t,iH st G parts.toList with
   |some (.agg z),some place,some ps=>(DS place z ps).map fun cs=>([],.v (.agg cs))
   |_,_,_=>none
 | .call {callee:=.builtin .len,args,argTypes}=>match args.toList,argTypes[0]?.bind P.underlying with
   | [x],some (.slice _)=>match bB st G x with
     | some (.s row)=>match bJ st row with
       |some r=>if G.ji r.g then some ([],.v (.one (.i .i64 (.len r.lv))))else none
       | none=>match fh st row with
         |some r=>if G.ji r.g then some ([],.v (.one (.i .i64 (.len r.lv))))else none
         |none=>none
     |some .lD=>some ([],.v (.one (.i .i64 (.c 0))))
     | some (.vw row _ lo n)=>match bJ st row with
       |some r=>if G.ji r.g then some ([(BE.le (.c 0) n).mk],.v (.one (.i .i64 n)))else none
       |none=>none
     |some (.bs _ n _)=>some ([],.v (.one (.i .i64 (.c (n:Int)))))
     | some (.kb row bs)=>match bJ st row with
       |some r=>if G.ji r.g then some ([(BE.eq (.len r.lv) (.c (bs.length:Int))).mk],.v (.one (.i .i64 (.c (bs.length:Int)))))else none
       |none=>none
     |_=>none
   | [x],some .string=>match bB st G x with
     |some (.str bs)=>some ([],.v (.one (.i .i64 (.c (bs.length:Int)))))
     |_=>none
   |_,_=>none
 | .call {callee:=.builtin .max,args,..}=>match args.toList with
   | [x,y]=>match bB st G x,bB st G y with
     |some (.i k a),some (.i k' b)=>if k=k' then some ([],.v (.one (.i k (IE.max a b).mk)))else none
     |_,_=>none
   | [x,y,z]=>match bB st G x,bB st G y,bB st G z with
     |some (.i k a),some (.i k' b),some (.i k'' c)=>if k=k'/\k=k'' then some ([],.v (.one (.i k (IE.max (IE.max a b).mk c).mk)))else none
     |_,_,_=>none
   |_=>none
 | .call {callee:=.builtin .min,args,..}=>match args.toList with
   | [x,y]=>match bB st G x,bB st G y with
     |some (.i k a),some (.i k' b)=>if k=k' then some ([],.v (.one (.i k (IE.min a b).mk)))else none
     |_,_=>none
   | [x,y,z]=>match bB st G x,bB st G y,bB st G z with
     |some (.i k a),some (.i k' b),some (.i k'' c)=>if k=k'/\k=k'' then some ([],.v (.one (.i k (IE.min (IE.min a b).mk c).mk)))else none
     |_,_,_=>none
   |_=>none
 |_=>none
def St.put(st:St)(dst:Option Tmp)(s:aV):St:=
 match dst with
 |some d=>{st with tmps:=st.tmps.set d (some s) }
 |none=>st
def St.Nr(st:St)(dst:Option Tmp)(s:aV):Option St:=if s.all st.has then some (st.put dst s)else none
def yI(st:St)(b:iQ):St:={st with aY:=st.aY.map fun x=>if x.id=b.id then b else x}
def tJ(st:St)(G:BE):CT->ai->Option DE
 |.c (.i k),.i k' e=>if k=k' then some (.i e)else none
 |.c .b,.b e=>some (.b e)
 |.c .f,.fl e=>some (.i e)
 | .s e ks,.s row=>match bJ st row with
   |some r=>if G.ji r.g&&decide (r.e=e)&&decide (r.ks=ks)then some (.l r.lv)else none
   |none=>none
 |.s _ ks,.lD=>if 0<ks.length then some .nil else none
 | .n e aO,.s row=>match bJ st row with
   |some _=>none
   | none=>match fh st row with
     |some r=>if G.ji r.g&&decide (r.e=e)&&decide (r.aO=aO)then some (.l r.lv)else none
     |none=>none
 |.n _ aO,.lD=>if 0<aO.length then some .nil else none
 |_,_=>none
def cM(st:St)(G:BE):List CT->List ai->Option (List DE)
 | [],[]=>some []
 | c::cs,l::ls=>match tJ st G c l,cM st G cs ls with
   |some d,some ds=>some (d::ds)
   |_,_=>none
 |_,_=>none
def uR(k:IntKind):List ai->Option (List IE)
 | []=>some []
 | .i k' e::ls=>if k=k' then(match uR k ls with
   |some es=>some (e::es)
   |none=>none)else none
 |_::_=>none
def nY:CK->ai->Option (Sum IE BE)
 |.i k,.i k' e=>if k=k' then some (.inl e)else none
 |.b,.b e=>some (.inr e)
 |_,_=>none
def eV:List CK->List ai->Option (List (Sum IE BE))
 | [],[]=>some []
 | k::ks,l::ls=>match nY k l,eV ks ls with
   |some x,some xs=>some (x::xs)
   |_,_=>none
 |_,_=>none
def D4(st:St)(G:BE)(e:TypeId)(ks:List CK):ai->Option DE
 | .p id 0=>match gB st id with
   | some b=>match ks with
     | [.i k]=>if b.cells.length<=65536 then(uR k b.cells).map DE.rows else none
     |ks=>if 0<ks.length then(eV ks b.cells).map DE.vu else none
   |none=>none
 | .ep row sz (.c 0) 0=>match bJ st row with
   |some r=>if G.ji r.g&&decide (r.e=e)&&decide (r.ks=ks)&&decide (sz=ks.length)then some (.l r.lv)else none
   |none=>none
 |_=>none
def rI(c:Bool×Nat):ai:=if c.1 then .ep c.2 1 (.c 0) 0 else .p c.2 0
def wv(st:St)(G:BE):List (TypeId×IntKind)->List (Bool×Nat)->Option (List DE)
 | [],[]=>some []
 | (e,k)::cs,c::dF=>match D4 st G e [.i k] (rI c),wv st G cs dF with
   |some d,some ds=>some (d::ds)
   |_,_=>none
 |_,_=>none
def ZX(st:St)(G:BE):VT->V1->Option (List DE)
 |.one c,.one l=>(tJ st G c l).map fun d=>[d]
 |.agg cs,.agg ls=>cM st G cs ls
 |.ptr e ks,.one l=>(D4 st G e ks l).map fun d=>[d]
 |.fn g cs,.one (.fn g' dF)=>if g=g' then wv st G cs dF else none
 |_,_=>none
def oc(st:St)(G:BE):List VT->List V1->Option (List DE)
 | [],[]=>some []
 | t::ts,v::vs=>match ZX st G t v,oc st G ts vs with
   |some d,some ds=>some (d++ds)
   |_,_=>none
 |_,_=>none
def mI(b:iQ):List iQ->List iQ
 | []=>[b]
 |x::xs=>if x.id<b.id then b::x::xs else x::mI b xs
def dz(r:Row):List Row->List Row
 | []=>[r]
 |x::xs=>if x.id<r.id then r::x::xs else x::dz r xs
def dm(rs l:List Row):List Row:=rs.foldr dz l
def wj(r:ej):List ej->List ej
 | []=>[r]
 |x::xs=>if x.id<r.id then r::x::xs else x::wj r xs
def sI(rs l:List ej):List ej:=rs.foldr wj l
def cX(G:BE)(id:Nat):CT->ai×List Row
 |.c (.i k)=>(.i k (.v id),[])
 |.c .b=>(.b (.v id),[])
 |.c .f=>(.fl (.v id),[])
 |.s e ks=>(.s id,[{id,e,ks,lv:=id,own:=true,g:=G}])
 |.n _ _=>(.s id,[])
def aN(G:BE):Nat->List CT->List ai×List Row
 |_,[]=>([],[])
 |id,c::cs=>let(l,r):=cX G id c;let(ls,rs):=aN G (id+1) cs;(l::ls,r++rs)
def iJ(G:BE):Nat->List (TypeId×IntKind)->List (Bool×Nat)×List Row
 |_,[]=>([],[])
 |id,(e,k)::cs=>((true,id)::(iJ G (id+1) cs).1,{id,e,ks:=[.i k],lv:=id,own:=true,g:=G}::(iJ G (id+1) cs).2)
def jV(G:BE)(id:Nat):VT->V1×List Row
 |.one c=>let(l,r):=cX G id c;(.one l,r)
 |.agg cs=>let(ls,r):=aN G id cs;(.agg ls,r)
 |.ptr e ks=>(.one (.ep id ks.length (.c 0) 0),[{id,e,ks,lv:=id,own:=true,g:=G}])
 |.fn g cs=>(.one (.fn g (iJ G id cs).1),(iJ G id cs).2)
def cg(G:BE):Nat->List VT->List V1×List Row
 |_,[]=>([],[])
 |id,t::ts=>let(v,r):=jV G id t;let(vs,rs):=cg G (id+t.bL.length) ts;(v::vs,r++rs)
def ew(own:Bool)(G:BE):Nat->List CT->List ej
 |_,[]=>[]
 |id,.n e aO::cs=>⟨id,e,aO,id,G,own⟩::ew own G (id+1) cs
 |id,_::cs=>ew own G (id+1) cs
def qN:List V1->SV
 | [x]=>.v x
 |xs=>.IY xs
def rK(x:IE)(l:ai)(sz:Nat)(cells:List ai)(off:Nat):Nat->Nat->Option (List ai)
 |_,0=>some cells
 | j,n+1=>match cells[off]?,l with
   |some (.i k a),.i k' b=>if k=k' then rK x l sz (cells.set off (.i k (.jZ x j b a))) (off+sz) (j+1) n else none
   |some (.b p),.b q=>rK x l sz (cells.set off (.b (.or (.and (.eq x (.c (j:Int))) q) (.and (.not (.eq x (.c (j:Int)))) p)))) (off+sz) (j+1) n
   |_,_=>none
def xr(x:IE)(sz n:Nat)(cells:List ai)(off:Nat):List ai->Option (List ai)
 | []=>some cells
 | l::ls=>match rK x l sz cells off 0 n with
   |some cs=>xr x sz n cs (off+1) ls
   |none=>none
def kN:aV:=⟨.c false,.v (.one (.b (.c false)))⟩
def qF(st:St)(key:Nat)(e:TypeId)(ls:List ai)(dst:Option Tmp):Option (List Ev×St):=
 if st.free key 1&&bt st.has ls then
   some ([],{st.bC key 1 with aY:=mI ⟨key,e,ls⟩ st.aY}.put dst ⟨.c true,.v (.one (.p key 0))⟩)
 else none
def Dc(st:St)(key:Nat)(e:TypeId)(aO:List NK)(du:List Ev)(op:dw)(rows:List Row)(a7:List ej)(dst:Option Tmp):Option (List Ev×St):=
 if st.free key 1&&decide (0<aO.length)then
   some (du++[.cH key op],{st.bC key 1 with rows,a7:=wj ⟨key,e,aO,key,.c true,true⟩ a7}.put dst ⟨.c true,.v (.one (.s key))⟩)
 else none
def setCells(st:St)(b:iQ)(cs:List ai)(dst:Option Tmp):Option (List Ev×St):=
 if bt st.has cs then some ([],(yI st {b with cells:=cs}).put dst kN)else none
def newRow(st:St)(G:BE)(key:Nat)(e:TypeId)(ks:List CK)(du:List Ev)(op:dw)(rows:List Row)(dst:Option Tmp):Option (List Ev×St):=
 if st.free key 1&&G.all st.has then
   some (du++[.cH key op],{st.bC key 1 with rows:=dz ⟨key,e,ks,key,true,G⟩ rows}.put dst ⟨G,.v (.one (.s key))⟩)
 else none
def tD(st:St)(l:ai)(ls:List ai)(key:Nat)(dst:Option Tmp):Option (List Ev×St):=
 match l with
 | .p id off=>match gB st id with
   |some b=>if off+ls.length<=b.cells.length then setCells st b (iY b.cells off ls) dst else none
   |none=>none
 | .pi id off sz n x=>match gB st id with
   | some b=>match xr x sz n b.cells off ls with
     | some cs=>if 0<n/\ls.length<=sz/\0<ls.length then(match setCells st b cs dst with
       |some (du,a8)=>some (.aL (BE.le (.c 0) x).mk :: .aL (BE.lt x (.c (n:Int))).mk::du,a8)
       |none=>none)else none
     |none=>none
   |none=>none
 | .ep row sz x j=>match bJ st row,ls with
   | some r,[l]=>match r.ks[j]? with
     | some kj=>match nY kj l with
       |some y=>if r.own&&decide (r.g = .c true)&&decide (r.ks.length=sz)&&st.free key 1 then
       some ([.aL (BE.le (.c 0) x).mk,.aL (BE.lt x (.len r.lv)).mk,.cH key (.set r.lv x j y)],
         {st.bC key 1 with rows:=dz {r with lv:=key} (st.rows.filter fun z=>decide (z.id≠row)) }.put dst kN)else none
       |none=>none
     |none=>none
   | some r,ls=>match eV r.ks ls with
     |some es=>if r.own&&decide (r.g = .c true)&&decide (r.ks.length=sz)&&decide (j=0)&&decide (1<sz)&&st.free key 1 then
         some ([.aL (BE.le (.c 0) x).mk,.aL (BE.lt x (.len r.lv)).mk,.cH key (.C8 r.lv x es)],
           {st.bC key 1 with rows:=dz {r with lv:=key} (st.rows.filter fun z=>decide (z.id≠row)) }.put dst kN)else none
     | none=>match eV ((r.ks.drop j).take ls.length) ls with
       |some es=>if r.own&&decide (r.g = .c true)&&decide (r.ks.length=sz)&&decide (j+ls.length<=sz)&&decide (0<ls.length)&&st.free key 1 then
           some ([.aL (BE.le (.c 0) x).mk,.aL (BE.lt x (.len r.lv)).mk,.cH key (.Da r.lv x j es)],
             {st.bC key 1 with rows:=dz {r with lv:=key} (st.rows.filter fun z=>decide (z.id≠row)) }.put dst kN)else none
       |none=>none
   |_,_=>none
 |_=>none
def pn(ks:List CK):Nat->Nat->List (Nat×V1)->Option (List (List (Sum IE BE)))
 |0,_,[]=>some []
 |n+1,i,(j,v)::ps=>if i=j then
     (match eV ks v.leaves,pn ks n (i+1) ps with
     |some r,some rs=>some (r::rs)
     |_,_=>none)else none
 |_,_,_=>none
def lZ(P:Program)(e:TypeId):Option Nat:=
 match P.info? e with
 | some i=>match i.zero with
   |some z=>if decide (0<i.bytes)&&decide (0<i.size)&&decide (z.cells.size=i.size)then some (140737488355328/i.bytes)else none
   |none=>none
 |none=>none
def Li(g:TypeId->Option (List NK)):List Field->Option (List NK)
 | []=>some []
 | f::fs=>match g f.type,Li g fs with
   |some m,some r=>some (m++r)
   |_,_=>none
def P5(P:Program):Nat->TypeId->Option (List NK)
 |0,_=>none
 | n+1,t=>match P.underlying t with
   |some (.int k)=>some [.c (.i k)]
   |some .bool=>some [.c .b]
   | some (.slice e)=>match flat P 16 e with
     |some [k]=>some [.s e k]
     |_=>none
   |some (.struct fs)=>Li (P5 P n) fs.toList
   |some (.array len e)=>(P5 P n e).map fun m=>(List.replicate len m).flatten
   |_=>none
def n7(st:St):List NK->List ai->Option (List bU×List Nat)
 | [],[]=>some ([],[])
 | .c k::aO,l::ls=>match nY k l,n7 st aO ls with
   |some x,some (xs,gs)=>some (.c x::xs,gs)
   |_,_=>none
 | .s e k::aO,.s r::ls=>match bJ st r,n7 st aO ls with
   |some x,some (xs,gs)=>if x.own&&decide (x.g = .c true)&&decide (x.e=e)&&decide (x.ks=[k])then some (.s x.lv::xs,r::gs)else none
   |_,_=>none
 | .s _ _::aO,.lD::ls=>match n7 st aO ls with
   |some (xs,gs)=>some (.nil::xs,gs)
   |none=>none
 |_,_=>none
def ml(st:St)(aO:List NK):Nat->Nat->List (Nat×V1)->Option (List (List bU)×List Nat)
 |0,_,[]=>some ([],[])
 |n+1,i,(j,v)::ps=>if i=j then
     (match n7 st aO v.leaves,ml st aO n (i+1) ps with
     |some (r,g),some (rs,gs)=>some (r::rs,g++gs)
     |_,_=>none)else none
 |_,_,_=>none
def yT:List Nat->Bool
 | []=>true
 |x::xs=>!xs.contains x&&yT xs
def kQ(sz:Nat):Nat->Nat->List (Nat×V1)->Option (List ai)
 |0,_,[]=>some []
 |n+1,i,(j,v)::ps=>if i=j/\v.leaves.length=sz then(kQ sz n (i+1) ps).map fun ls=>v.leaves++ls else none
 |_,_,_=>none
def ado(P:Program)(bsl:List TypeId)(st:St)(G:BE)(key:Nat)(dst:Option Tmp)(t:TypeId)(n:Nat)(parts:Array (Nat×Operand)):Option (List Ev×St):=
 match P.underlying t,iH st G parts.toList with
 |some (.slice e),some ps=>if bsl.contains e then(if decide (G = .c true)&&((P.info? e).bind (·.zero)).isSome&&decide (0<P.cellsOf e)&&decide (n*P.cellsOf e<=16777216)then
     (match kQ (P.cellsOf e) n 0 ps with
     |some ls=>if st.free key 1&&bt st.has ls then some ([],{st.bC key 1 with aY:=mI ⟨key,e,ls⟩ st.aY}.put dst ⟨.c true,.v (.one (.bs key n (P.cellsOf e)))⟩)else none
     |none=>none)else none)else match flat P 16 e with
   |some ks=>if decide (0<ks.length)&&((P.info? e).bind (·.zero)).isSome&&decide (n*ks.length<=16777216)&&decide (P.cellsOf e=ks.length)then
       (match pn ks n 0 ps with
       |some rows=>newRow st G key e ks [] (.lit rows) st.rows dst
       |none=>none)else none
   | none=>match P5 P 16 e with
     |some aO=>if decide (G = .c true)&&((P.info? e).bind (·.zero)).isSome&&decide (n*aO.length<=16777216)&&decide (P.cellsOf e=aO.length)then
         (match ml st aO n 0 ps with
         |some (rows,gone)=>if yT gone then Dc st key e aO [] (.Bi rows) (st.rows.filter fun r=>!gone.contains r.id) st.a7 dst else none
         |none=>none)else none
     |none=>none
 |_,_=>none
def sH(G:BE):List BE->List Ev
 | []=>[]
 | n::ns=>match BE.under G n with
   |.c true=>sH G ns
   |m=>.aL m::sH G ns
def fY(lv:Nat)(i:IE)(key:Nat):Nat->List NK->List ai
 |_,[]=>[]
 |j,.c k::aO=>rG lv i j k::fY lv i key (j+1) aO
 |j,.s _ _::aO=>.s (key+j)::fY lv i key (j+1) aO
def Hj(lv:Nat)(i:IE)(key:Nat)(all:List NK):Nat->List NK->List Ev
 |_,[]=>[]
 |j,.c _::aO=>Hj lv i key all (j+1) aO
 |j,.s _ _::aO=>.cH (key+j) (.sub lv i all j)::Hj lv i key all (j+1) aO
def kP(G:BE)(key:Nat):Nat->List NK->List Row
 |_,[]=>[]
 |j,.c _::aO=>kP G key (j+1) aO
 |j,.s e k::aO=>⟨key+j,e,[k],key+j,false,G⟩::kP G key (j+1) aO
def Yu(P:Program)(st:St)(G:BE)(key:Nat)(dst:Option Tmp)(t:TypeId)(n:ej)(i:IE)(j:Nat):Option (List Ev×St):=
 if(P.underlying t).isSome&&decide (0<n.aO.length)&&G.ji n.g&&G.all st.has&&st.free key n.aO.length&&i.all st.has&&st.has n.lv then
   (if gO P t then(if j=0/\P.cellsOf t=n.aO.length then
       some (sH G [(BE.le (.c 0) i).mk,(BE.lt i (.len n.lv)).mk]++Hj n.lv i key n.aO 0 n.aO,
         {st.bC key n.aO.length with rows:=dm (kP G key 0 n.aO) st.rows}.put dst ⟨G,.v (.agg (fY n.lv i key 0 n.aO))⟩)else none)
   else(match(fY n.lv i key 0 n.aO)[j]? with
     |some l=>if 0<P.cellsOf t then some (sH G [(BE.le (.c 0) i).mk,(BE.lt i (.len n.lv)).mk]++Hj n.lv i key n.aO 0 n.aO,
         {st.bC key n.aO.length with rows:=dm (kP G key 0 n.aO) st.rows}.put dst ⟨G,.v (.one l)⟩)else none
     |none=>none))
 else none
def Lj(P:Program)(st:St)(G:BE)(key:Nat)(dst:Option Tmp)(t:TypeId)(x:Operand):Option (List Ev×St):=
 match bB st G x with
 | some (.ep row sz i j)=>match bJ st row with
   |some _=>none
   | none=>match fh st row with
     |some n=>if sz=n.aO.length then Yu P st G key dst t n i j else none
     |none=>none
 |_=>none
def zeroOf:CK->ai
 |.i k=>.i k (.c 0)
 |.b=>.b (.c false)
 |.f=>.fl (.c 0)
def P4(P:Program)(st:St)(key:Nat)(dst:Option Tmp)(op:Op):Option (List Ev×St):=
 match op with
 | .alloc e=>match qE P e with
   |some z=>qF st key e z.leaves dst
   |none=>none
 | .box e x=>match lL st (.c true) x with
   |some v=>qF st key e v.leaves dst
   |none=>none
 | .store t a x=>match bB st (.c true) a,lL st (.c true) x with
   |some l,some v=>if v.leaves.length=P.cellsOf t/\0<P.cellsOf t then tD st l v.leaves key dst else none
   |_,_=>none
 | .makeSlice t n c=>match P.underlying t,bB st (.c true) n,bB st (.c true) c with
   | some (.slice e),some (.i _ x),some (.i _ y)=>match lZ P e,flat P 16 e,qE P e with
     |some room,some ks,some z=>if decide (0<ks.length)&&decide (P.cellsOf e=ks.length)&&decide (z.leaves=ks.map zeroOf)then
         (if x=y then newRow st (.c true) key e ks [.aL (BE.le (.c 0) x).mk,.aL (BE.le x (.c (room:Int))).mk] (.rep x (List.replicate ks.length 0)) st.rows dst
         else newRow st (.c true) key e ks [.aL (BE.le (.c 0) x).mk,.aL (BE.le x y).mk,.aL (BE.le y (.c (room:Int))).mk] (.rep x (List.replicate ks.length 0)) st.rows dst)else none
     |_,_,_=>none
   |_,_,_=>none
 | .slice t x none (some h) none=>match P.underlying t,bB st (.c true) x,bB st (.c true) h with
   | some (.slice e),some (.s a),some (.i _ n)=>match bJ st a with
     |some ra=>if ra.own&&decide (ra.g = .c true)&&decide (ra.e=e)&&decide (P.cellsOf e=ra.ks.length)then
         newRow st (.c true) key e ra.ks [.aL (BE.le (.c 0) n).mk,.aL (BE.le n (.len ra.lv)).mk] (.take ra.lv n) (st.rows.filter fun r=>decide (r.id≠a)) dst else none
     | none=>match fh st a with
       |some ra=>if ra.own&&decide (ra.e=e)&&decide (P.cellsOf e=ra.aO.length)then
           Dc st key e ra.aO [.aL (BE.le (.c 0) n).mk,.aL (BE.le n (.len ra.lv)).mk] (.take ra.lv n) st.rows (st.a7.filter fun r=>decide (r.id≠a)) dst else none
       |none=>none
   |_,_,_=>none
 | .call {callee:=.builtin .append,args,argTypes}=>match args.toList,argTypes.toList with
   | [x,y],[t,t']=>if t=t' then(match P.underlying t with
     | some (.slice e)=>match lZ P e,bB st (.c true) x,bB st (.c true) y with
       | some room,some .lD,some (.s b)=>match bJ st b with
         |some rb=>if decide (rb.g = .c true)&&decide (rb.e=e)&&decide (P.cellsOf e=rb.ks.length)then
             newRow st (.c true) key e rb.ks [.aL (BE.le (.len rb.lv) (.c (room:Int))).mk] (.cp rb.lv) st.rows dst else none
         | none=>match fh st b with
           |some rb=>if rb.own&&decide (rb.e=e)&&decide (P.cellsOf e=rb.aO.length)then
               Dc st key e rb.aO [.aL (BE.le (.len rb.lv) (.c (room:Int))).mk] (.cp rb.lv) st.rows st.a7 dst else none
           |none=>none
       | some room,some (.cs a),some (.s b)=>match bJ st a,bJ st b with
         |some ra,some rb=>if decide (ra.g = .c true)&&decide (rb.g = .c true)&&decide (ra.e=e)&&decide (rb.e=e)&&decide (ra.ks=rb.ks)&&decide (P.cellsOf e=ra.ks.length)then
             newRow st (.c true) key e ra.ks [.aL (BE.lt (.c 0) (.len rb.lv)).mk,.aL (BE.le (IE.add (.len ra.lv) (.len rb.lv)).mk (.c (room:Int))).mk] (.app ra.lv rb.lv) st.rows dst else none
         |_,_=>none
       | some room,some (.s a),some (.s b)=>match bJ st a,bJ st b with
         |some ra,some rb=>if ra.own&&decide (ra.g = .c true)&&decide (rb.g = .c true)&&decide (ra.e=e)&&decide (rb.e=e)&&decide (ra.ks=rb.ks)&&decide (a≠b)&&decide (P.cellsOf e=ra.ks.length)then
             newRow st (.c true) key e ra.ks [.aL (BE.le (IE.add (.len ra.lv) (.len rb.lv)).mk (.c (room:Int))).mk] (.app ra.lv rb.lv) (st.rows.filter fun r=>decide (r.id≠a)) dst else none
         | none,none=>match fh st a,fh st b with
           |some ra,some rb=>if ra.own&&rb.own&&decide (ra.e=e)&&decide (rb.e=e)&&decide (ra.aO=rb.aO)&&decide (a≠b)&&decide (P.cellsOf e=ra.aO.length)then
               Dc st key e ra.aO [.aL (BE.le (IE.add (.len ra.lv) (.len rb.lv)).mk (.c (room:Int))).mk] (.app ra.lv rb.lv) st.rows (st.a7.filter fun r=>decide (r.id≠a)) dst else none
           |_,_=>none
         |_,_=>none
       |_,_,_=>none
     |_=>none)else none
   |_,_=>none
 | .call {callee:=.builtin .copy,args,argTypes}=>match args.toList,argTypes.toList with
   | [x,y],[t,t']=>if t=t' then(match P.underlying t,bB st (.c true) x,bB st (.c true) y with
     | some (.slice e),some (.s a),some (.s b)=>match bJ st a,bJ st b with
       |some ra,some rb=>if ra.own&&decide (ra.g = .c true)&&decide (rb.g = .c true)&&decide (ra.ks=rb.ks)&&decide (a≠b)&&decide (P.cellsOf e=ra.ks.length)&&(P.info? e).isSome&&st.free key 1 then
           some ([.cH key (.P2 ra.lv rb.lv)],{st.bC key 1 with rows:=dz {ra with lv:=key} (st.rows.filter fun r=>decide (r.id≠a)) }.put dst ⟨.c true,.v (.one (.i .i64 (.min (.len ra.lv) (.len rb.lv))))⟩)else none
       |_,_=>none
     |_,_,_=>none)else none
   |_,_=>none
 | .call {callee:=.builtin .clear,args,argTypes}=>match args.toList,argTypes.toList with
   | [x],[t]=>match P.underlying t,bB st (.c true) x with
     | some (.slice e),some (.s a)=>match bJ st a,qE P e with
       |some ra,some z=>if ra.own&&decide (ra.g = .c true)&&decide (P.cellsOf e=ra.ks.length)&&(P.info? e).isSome&&decide (z.leaves=ra.ks.map zeroOf)&&st.free key 1 then
           some ([.cH key (.rep (.len ra.lv) (List.replicate ra.ks.length 0))],{st.bC key 1 with rows:=dz {ra with lv:=key} (st.rows.filter fun r=>decide (r.id≠a)) }.put dst ⟨.c true,.IY []⟩)else none
       |_,_=>none
     |_,_=>none
   |_,_=>none
 | .convert src Nh x=>match P.underlying src,P.underlying Nh,bB st (.c true) x with
   | some .string,some (.slice e),some (.str bs)=>match P.underlying e with
     |some (.int .u8)=>if(P.info? e).isSome&&decide (P.cellsOf e=1)&&decide (bs.length<=4096)&&st.free key 1 then some ([.cH key (.lit (bs.map fun b=>[Sum.inl (IE.c (b.toNat:Int))]))],{st.bC key 1 with rows:=dz ⟨key,e,[.i .u8],key,false,.c true⟩ st.rows}.put dst ⟨.c true,.v (.one (.kb key bs))⟩)else none
     |_=>none
   |_,_,_=>none
 |_=>none
def CT.yu:CT->Bool
 |.n _ _=>true
 |_=>false
def CT.isS:CT->Bool
 |.s _ _=>true
 |_=>false
def rT(cs:List CT):Bool:=!cs.any CT.yu||(!cs.any CT.isS&&decide (cs.countP CT.yu<=1))
def width(vs:List VT):Nat:=(bL vs).length
def bG(vs:List V1):List ai:=vs.flatMap V1.leaves
def cU(ls:List ai):List Nat:=ls.filterMap fun| .s r=>some r|_=>none
def iS:List VT->Bool
 | []=>true
 |.ptr _ _::_=>false
 |.fn _ _::_=>false
 |.one (.n _ _)::_=>false
 |.one _::ts=>iS ts
 |.agg cs::ts=>cs.all (fun| .n _ _=>false|_=>true)&&iS ts
def fm:List VT->Bool
 | []=>true
 |.ptr _ _::_=>false
 |.fn _ _::_=>false
 |_::ts=>fm ts
def ZY(st:St)(key:Nat)(dst:Option Tmp)(f:FuncId)(sg:bW)(vs:List V1):Option (List Ev×St):=
 match oc st (.c true) sg.args vs with
 | some ds=>
   let gone:=cU ((bG vs).take sg.cons)
   if st.free key (width sg.res)&&iS sg.args&&iS sg.res&&yT gone&&gone.all (fun r=>match bJ st r with|some x=>x.own&&decide (x.g = .c true)|none=>false)then
     some ([.call f (.c true) ds sg.res key],{st.bC key (width sg.res)with rows:=dm (cg (.c true) key sg.res).2 (st.rows.filter fun r=>!gone.contains r.id) }.put dst ⟨.c true,qN (cg (.c true) key sg.res).1⟩)else none
 |none=>none
def Ns(aR:kS)(st:St)(G:BE)(key:Nat)(dst:Option Tmp)(f:FuncId)(vs:List V1):Option (List Ev×St):=
 match aR.sig f with
 | some sg=>if sg.cons≠0 then(if G = .c true then ZY st key dst f sg vs else none)else match oc st G sg.args vs with
   |some ds=>if st.free key (width sg.res)&&rT (bL sg.res)&&G.all st.has then
       some ([.call f G ds sg.res key],{st.bC key (width sg.res)with rows:=dm (cg G key sg.res).2 st.rows,a7:=sI (ew (decide (G=BE.c true)) G key (bL sg.res)) st.a7}.put dst ⟨G,qN (cg G key sg.res).1⟩)else none
   |none=>none
 |none=>none
def cop(aR:kS)(st:St)(G:BE)(key:Nat)(dst:Option Tmp)(f:FuncId)(args:List Operand):Option (List Ev×St):=
 match l7 st G args with
 |some vs=>Ns aR st G key dst f vs
 |none=>none
def V2(agg:Bool)(ls:List dx):V1:=if agg then .agg (ls.map dx.up)else .one ((ls.map dx.up).headD .lD)
def ZZ(aR:kS)(st:St)(G:BE)(key:Nat)(dst:Option Tmp)(x:Operand)(args:List Operand):Option (List Ev×St):=
 match bB st G x,l7 st G args with
 |some (.fn g dF),some vs=>Ns aR st G key dst g (vs++dF.map fun c=>.one (rI c))
 |some (.f g),some vs=>Ns aR st G key dst g vs
 |some (.bf g agg ls),some vs=>if agg||decide (ls.length=1)then Ns aR st G key dst g (V2 agg ls::vs)else none
 |_,_=>none
def guardOf(ops:Array Oper)(st:St)(o:Oper):Option BE:=
 match o.guard with
 |none=>some (.c true)
 | some (j,want)=>match(ops[j]?).bind (·.dst)with
   | some t=>match st.tmps[t]? with
     |some (some ⟨g,.v (.one (.b p))⟩)=>some (BE.and g (if want then p else(BE.not p).mk)).mk
     |_=>none
   |none=>none
def St.forget(st:St)(dst:Option Tmp):St:=
 match dst with
 |some d=>{st with tmps:=st.tmps.set d none}
 |none=>st
def Hq(P:Program)(aR:kS)(st:St)(G:BE)(dst:Option Tmp)(t:TypeId)(g:Nat):Option (List Ev×St):=
 match aR.zN.find? (fun p=>p.1==g)with
 | some p=>match td P t (p.2.map fun n=>ai.i .i64 (.c n)) 0 with
   |some v=>(st.Nr dst ⟨G,.v v⟩).map fun a8=>([],a8)
   |none=>none
 |none=>none
def tK(P:Program)(aR:kS)(ops:Array Oper)(st:St)(key:Nat)(o:Oper):Option (List Ev×St):=
 match guardOf ops st o with
 |none=>none
 |some (.c false)=>some ([],st.put o.dst kN)
 | some G=>match ZM P aR.gI st G o.op with
   | some (ns,sv)=>match st.Nr o.dst ⟨G,sv⟩with
     |some a8=>some (sH G ns,a8)
     |none=>none
   | none=>match o.op with
     |.assign (.const _)=>some ([],st.forget o.dst)
     |.call {callee:=.value (.func f),args,..}=>cop aR st G key o.dst f args.toList
     |.call {callee:=.value (.tmp t),args,..}=>ZZ aR st G key o.dst (.tmp t) args.toList
     |.buildSlice t n parts=>ado P aR.bsl st G key o.dst t n parts
     |.load t (.global g)=>Hq P aR st G o.dst t g
     |.load t x=>Lj P st G key o.dst t x
     |op=>if G = .c true then P4 P st key o.dst op else none
def im:Nat:=512
def Lk:Nat:=16
inductive Spec where
 |inl (g:FuncId) (vs:List V1)
 |val (x:V1)
 |aL (ok:BE) (e:IE)
 |Nt (g:FuncId) (vs:List V1)
def idxOf(bs:List UInt8)(b:Int):Int:=match(List.range bs.length).find? fun i=>decide (((bs[i]?).map fun x=>(x.toNat:Int))=some b)with
 |some i=>(i:Int)
 |none=>-1
def xy(dF:List (Bool×Nat)):List V1:=dF.map fun c=>.one (rI c)
def yU(aR:kS)(st:St)(G:BE)(op:Op):Option Spec:=
 match op with
 | .call {callee:=.value (.func f),args,..}=>match l7 st G args.toList with
   | some vs=>if dH st.has vs then
     (if aR.aL=some f then(match vs with
       | [.one (.b ok),.one (.i .i64 e)]=>some (.aL ok e)
       |_=>none)
     else if aR.yS=some f then(match vs with
       | [.one (.fn g dF)]=>some (.Nt g (xy dF))
       |_=>none)
     else if aR.Au=some f then(match vs with
       | [.one (.str bs),.one (.i .u8 (.c b))]=>if 0<=b/\b<256 then some (.val (.one (.i .i64 (.c (idxOf bs b)))))else none
       |_=>none)
     else if aR.inl.contains f then some (.inl f vs)else none)else none
   |none=>none
 | .call {callee:=.value (.tmp t),args,..}=>match bB st G (.tmp t),l7 st G args.toList with
   |some (.fn g dF),some vs=>if aR.inl.contains g&&dH st.has (vs++xy dF)then some (.inl g (vs++xy dF))else none
   |some (.f g),some vs=>if aR.inl.contains g&&dH st.has vs then some (.inl g vs)else none
   |some (.bf g agg ls),some vs=>if aR.inl.contains g&&dH st.has (V2 agg ls::vs)&&(agg||decide (ls.length=1))then some (.inl g (V2 agg ls::vs))else none
   |_,_=>none
 |_=>none
def aV.know(p:BE)(v:Bool)(s:aV):aV:=
 match s.sv with
 |.v (.one (.b x))=>if x=p then {s with sv:=.v (.one (.b (.c v))) }else if x=(BE.not p).mk then {s with sv:=.v (.one (.b (.c !v))) }else s
 |_=>s
def St.know(st:St)(p:BE)(v:Bool):St:={st with tmps:=st.tmps.map fun s=>s.map (aV.know p v) }
def od(h:Option St)(st:St):Bool:=
 match h with
 |none=>true
 |some hs=>hs.aY.all (fun b=>decide (gB st b.id=some b))&&hs.rows.all (fun r=>decide (bJ st r.id=some r))&&hs.a7.all (fun r=>st.a7.contains r)
def Yw(h:Option St)(st:St)(e:IE):au:=if od h st&&e.all st.has then .fail e else .stuck ("given up" ++ (match h with
 |some hs=>String.join (hs.aY.filterMap fun b=>if gB st b.id=some b then none else some (" blk " ++ toString b.id))++String.join (hs.rows.filterMap fun b=>if bJ st b.id=some b then none else some (" row " ++ toString b.id))
 |none=> ""))
def wx(st a8:St)(dst:Option Tmp)(sv:SV):St:={a8 with tmps:=(st.put dst ⟨.c true,sv⟩).tmps}
def rU(fn:Func)(vs:List V1)(st:St):St:={st with tmps:=vs.map (fun v=>some ⟨.c true,.v v⟩)++List.replicate (fn.ntmps-vs.length) none}
def V3(st:St):St:={st with next:=st.next+im,qd:=[] }
def adp(P:Program)(st:St):ResultVar->Option V1
 |.tmp t=>lL st (.c true) (.tmp t)
 | .cell a t=>match bB st (.c true) (.tmp a)with
   |some (.p id off)=>(DQ P st (.c true) t (.p id off)).map fun r=>r.2
   |_=>none
def tL(P:Program)(st:St):List ResultVar->Option (List V1)
 | []=>some []
 | r::rs=>match adp P st r,tL P st rs with
   |some v,some vs=>some (v::vs)
   |_,_=>none
def xA(P:Program)(cq:St)(W:List Nat)(st:St)(G:BE)(op:Op):Bool:=
 match op with
 | .load _ x=>match bB st G x with
   |some (.p id _)=>!W.contains id&&cq.aY.any (fun b=>b.id==id)
   |some (.pi id _ _ _ _)=>!W.contains id&&cq.aY.any (fun b=>b.id==id)
   |some (.ep row _ _ _)=>!W.contains row&&decide (bJ st row=bJ cq row)
   |_=>false
 |_=>true
abbrev Z0:=St->Nat->Oper->Option (List Ev×St)
def written(CU:Z0)(sd base:Nat):Nat->List Oper->St->Option (List (Nat×Nat))
 |_,[],_=>some []
 | i,o::rest,st=>match CU st (base+i*sd) o with
   | some (_,a8)=>match written CU sd base (i+1) rest a8 with
     | some W=>match o.op with
       | .store _ a _=>match bB st (.c true) a with
         |some (.p id _)=>some ((i,id)::W)
         |some (.pi id _ _ _ _)=>some ((i,id)::W)
         |some (.ep row _ _ _)=>some ((i,row)::W)
         |_=>none
       | .call {callee:=.builtin .append,args,..}=>match args.toList with
         | x::_=>match bB st (.c true) x with
           |some (.s row)=>some ((i,row)::W)
           |some .lD=>some W
           |some (.cs _)=>some W
           |_=>none
         | []=>none
       | .slice _ x _ _ _=>match bB st (.c true) x with
         |some (.s row)=>some ((i,row)::W)
         |some _=>some W
         |_=>none
       |.call {callee:=.builtin .copy,..}=>none
       |.call {callee:=.builtin .clear,..}=>none
       |_=>some W
     |none=>none
   |none=>none
def xB(W:List Nat)(st:St):ai->Bool
 |.p id _=>W.contains id&&(gB st id).isSome
 |.pi id _ _ _ _=>W.contains id&&(gB st id).isSome
 | .ep row _ _ _=>W.contains row&&(match bJ st row with
   |some r=>r.own&&decide (r.g = .c true)
   |none=>false)
 | .s row=>W.contains row&&(match bJ st row with
   |some r=>r.own&&decide (r.g = .c true)
   | none=>match fh st row with
     |some r=>r.own
     |none=>false)
 |_=>true
def Bm(W:List Nat)(st:St)(op:Op):Bool:=
 match op with
 | .store _ a _=>match bB st (.c true) a with
   |some l=>xB W st l
   |none=>true
 | .call {callee:=.builtin .append,args,..}=>match args.toList with
   | x::_=>match bB st (.c true) x with
     |some l=>xB W st l
     |none=>true
   | []=>true
 |.call {callee:=.builtin .copy,..}=>false
 |.call {callee:=.builtin .clear,..}=>false
 |_=>true
def keeps(cq:St)(W:List Nat)(st:St):Bool:=
 cq.aY.all (fun b=>W.contains b.id||decide (gB st b.id=some b))&&cq.rows.all (fun r=>W.contains r.id||decide (bJ st r.id=some r))
def nh(p:Nat->Bool):Sum IE BE->Bool
 |.inl e=>e.all p
 |.inr b=>b.all p
def bU.all(p:Nat->Bool):bU->Bool
 |.c x=>nh p x
 |.s k=>p k
 |.nil=>true
def dw.all(p:Nat->Bool):dw->Bool
 |.lit rows=>rows.all fun r=>r.all (nh p)
 |.app a b=>p a&&p b
 |.set a i _ x=>p a&&(i.all p&&nh p x)
 |.C8 a i xs=>p a&&(i.all p&&xs.all (nh p))
 |.Da a i _ xs=>p a&&(i.all p&&xs.all (nh p))
 |.take a n=>p a&&n.all p
 |.rep n _=>n.all p
 |.cp a=>p a
 |.sub a i _ _=>p a&&i.all p
 |.P2 a b=>p a&&p b
 |.Bi rows=>rows.all fun r=>r.all (bU.all p)
def DE.all(p:Nat->Bool):DE->Bool
 |.i e=>e.all p
 |.b e=>e.all p
 |.l k=>p k
 |.nil=>true
 |.rows es=>es.all (IE.all p)
 |.vu xs=>xs.all (nh p)
def fA(a b:Nat):Nat:=(a*1000003+b*8191+12345)%4294967291
def IE.key:IE->Nat
 |.v k=>fA 1 k
 |.c n=>fA 2 (if n<0 then 2*n.natAbs+1 else 2*n.natAbs)
 |.add a b=>fA 3 (fA a.key b.key)
 |.sub a b=>fA 4 (fA a.key b.key)
 |.mul a b=>fA 5 (fA a.key b.key)
 |.tdiv a b=>fA 6 (fA a.key b.key)
 |.tmod a b=>fA 7 (fA a.key b.key)
 |.ediv a n=>fA 8 (fA a.key n)
 |.emod a n=>fA 9 (fA a.key n)
 |.shl a b=>fA 10 (fA a.key b.key)
 |.shr a b=>fA 11 (fA a.key b.key)
 |.wrap _ a=>fA 12 a.key
 |.max a b=>fA 13 (fA a.key b.key)
 |.min a b=>fA 14 (fA a.key b.key)
 |.bits _ _ a b=>fA 15 (fA a.key b.key)
 |.len k=>fA 16 k
 |.get k i j=>fA 17 (fA (fA k j) i.key)
 |.jZ i n a b=>fA 18 (fA (fA i.key n) (fA a.key b.key))
def BE.key:BE->Nat
 |.v k=>fA 21 k
 |.c x=>if x then 22 else 23
 |.lt a b=>fA 24 (fA a.key b.key)
 |.le a b=>fA 25 (fA a.key b.key)
 |.eq a b=>fA 26 (fA a.key b.key)
 |.not a=>fA 27 a.key
 |.and a b=>fA 28 (fA a.key b.key)
 |.or a b=>fA 29 (fA a.key b.key)
 |.iff a b=>fA 30 (fA a.key b.key)
 |.sP a=>fA 31 a.key
def outside(base n:Nat):Nat->Bool:=fun k=>decide (k<base)||decide (base+n<=k)
def other(id:Nat):Nat->Bool:=fun k=>decide (k≠id)
def indep(sig:FuncId->Option bW)(e e2:Ev):Bool:=
 match e2 with
 | .cH id op=>(match e with
   |.call _ g args res base=>op.all (outside base (bL res).length)&&(outside base (bL res).length id&&(g.all (other id)&&args.all (DE.all (other id))))
   |.aL p=>p.all (other id)
   |.cH sV Vu=>decide (id≠sV)&&(op.all (other sV)&&Vu.all (other id))
   |.dB p e=>p.all (other id)&&e.all (other id))
 | .aL q=>(match e with
   |.aL _=>true
   |.call _ _ _ res base=>q.all (outside base (bL res).length)
   |.dB _ _=>true
   |.cH id _=>q.all (other id))
 | .call f' g' Bn sW ja=>(match e with
   |.call f g args res base=>(decide (ja+(bL sW).length<=base)||decide (base+(bL res).length<=ja))&&(decide ((sig f').map (·.res)=some sW)&&(g'.all (outside base (bL res).length)&&(Bn.all (DE.all (outside base (bL res).length))&&(g.all (outside ja (bL sW).length)&&args.all (DE.all (outside ja (bL sW).length))))))
   |.dB p e=>decide ((sig f').map (·.res)=some sW)&&(p.all (outside ja (bL sW).length)&&e.all (outside ja (bL sW).length))
   |_=>false)
 | .dB p' e'=>(match e with
   |.dB p e=>decide (e=e')
   |_=>false)
def Ev.Nv:Ev->Nat×Nat
 |.aL p=>(0,p.key)
 |.cH id _=>(1,id)
 |.call _ _ _ _ b=>(2,b)
 |.dB p _=>(3,p.key)
def Z1(a b:Nat×Nat):Bool:=decide (a.1<b.1)||(decide (a.1=b.1)&&decide (a.2<b.2))
def D5(sig:FuncId->Option bW):List Ev->Nat->List Ev->Nat->Nat×Nat->Nat
 |_,_,[],b,_=>b
 |pre,i,e::es,b,r=>if Z1 e.Nv r&&pre.all (fun e1=>indep sig e1 e)then D5 sig (e::pre) (i+1) es i e.Nv else D5 sig (e::pre) (i+1) es b r
def Ll(sig:FuncId->Option bW):Nat->List Ev->List Ev
 |0,es=>es
 |_+1,[]=>[]
 | n+1,e::es=>match(e::es)[D5 sig [e] 1 es 0 e.Nv]? with
   |some x=>if((e::es).take (D5 sig [e] 1 es 0 e.Nv)).all (fun e1=>indep sig e1 x)then x::Ll sig n ((e::es).eraseIdx (D5 sig [e] 1 es 0 e.Nv))else e::es
   |none=>e::es
def Bo(sig:FuncId->Option bW)(es:List Ev):List Ev:=Ll sig es.length es
abbrev wy:=List (Nat×Nat×St×(List Ev×St))
def Hr(n m:Nat)(st:St):wy->Option (List Ev×St)
 | []=>none
 |(n',m',kT,r)::T=>if(Nat.beq m' m&&Nat.beq n' n)&&decide (kT=st)then some r else Hr n m st T
def tb(m i:Nat):Bool:=Nat.beq (Nat.land (Nat.shiftRight m i) 1) 1
def rV(m i:Nat):Nat:=Nat.lor m (Nat.pow 2 i)
def bitsOf(p:Nat->Bool):List Nat->Nat
 | []=>0
 |j::r=>bif p j then Nat.lor (Nat.pow 2 j) (bitsOf p r)else bitsOf p r
structure RO where
 i:Nat
 o:Oper
 dep:Nat
 bad:Nat
def Fg(ops:Array Oper)(i:Nat)(o:Oper):RO:=⟨i,o,bitsOf (fun j=>o.after.toList.any fun e=>Region.binds .any e&&Nat.beq e.on j) (List.range ops.size),
 bitsOf (fun j=>!(Nat.beq j i) && !(match ops[j]? with
   |some oj=>oj.after.toList.any (fun e=>Region.binds .any e&&Nat.beq e.on i)||o.apart ops oj
   |none=>true)) (List.range ops.size)⟩
def kU(ops:Array Oper):List RO:=(List.range ops.size).filterMap fun i=>(ops[i]?).map (Fg ops i)
def qi(ops:Array Oper):Bool:=ops.toList.all fun o=>o.after.toList.all fun e=>!Region.binds .any e||Nat.blt e.on ops.size
def RO.ready(m:Nat)(r:RO):Bool:=!tb m r.i&&Nat.beq (Nat.land r.dep m) r.dep
def RO.free(m:Nat)(r:RO):Bool:=Nat.beq (Nat.land r.bad m) r.bad
def vJ(acc:List Nat)(es:List Edge):Nat:=es.foldl (fun m e=>if Region.binds .any e&&Nat.blt e.on acc.length then Nat.lor (rV m e.on) (acc.getD e.on 0)else m) 0
def Nw(ops:List Oper):List Nat:=ops.foldl (fun acc o=>acc++[vJ acc o.after.toList]) []
structure WQ where
 ws:List (Nat×Nat×Nat)
 al:Option (List Nat)
def WQ.wf(q:WQ)(m:Nat):List Nat:=match q.al with
 |some W=>W
 |none=>(q.ws.filter fun p=>tb m p.1).map fun p=>p.2.1
def WQ.wt(q:WQ)(i:Nat):List Nat:=match q.al with
 |some W=>W
 |none=>(q.ws.filter fun p=>!tb p.2.2 i).map fun p=>p.2.1
def WQ.ok(q:WQ)(i:Nat):Bool:=match q.al with
 |some _=>true
 |none=>q.ws.all fun p=>!Nat.beq p.1 i
def P6(ops:Array Oper)(W:List (Nat×Nat)):WQ:=⟨(W.filter fun p=>Nat.blt p.1 ops.size).map fun p=>(p.1,p.2,(Nw ops.toList).getD p.1 0),none⟩
def ni(P:Program)(aR:kS)(ops:Array Oper)(cq:St)(q:WQ)(m:Nat)(st:St):List RO->Option (RO×List Ev×St)
 | []=>none
 |r::rs=>if r.free m&&q.ok r.i then(match guardOf ops st r.o with
     |none=>ni P aR ops cq q m st rs
     | some G=>if xA P cq (q.wt r.i) st G r.o.op then(match ZM P aR.gI st G r.o.op with
       | some (ns,sv)=>match st.Nr r.o.dst ⟨G,sv⟩with
         |some a8=>some (r,sH G ns,a8)
         |none=>none
       |none=>ni P aR ops cq q m st rs)else ni P aR ops cq q m st rs)else ni P aR ops cq q m st rs
def Bp(aR:kS)(CU:Z0)(cq:St)(wf:Nat->List Nat)(sd base:Nat)(st:St)(next:Nat->St->wy->Option ((List Ev×St)×wy))(r:RO)(T:wy):Option ((List Ev×St)×wy):=
 if Bm (wf r.i) st r.o.op&&keeps cq (wf r.i) st then(match CU st (base+r.i*sd) r.o with
   | some (du,a8)=>match next r.i a8 T with
     |some ((Ao,M6),T')=>some ((Bo aR.sig (du++Ao),M6),T')
     |none=>none
   |none=>none)else none
def Hs(go:RO->wy->Option ((List Ev×St)×wy))(x:List Ev×St):List RO->wy->Option wy
 | [],T=>some T
 | i::is,T=>match go i T with
   |some (y,T')=>if y=x then Hs go x is T' else none
   |none=>none
def explore(P:Program)(aR:kS)(CU:Z0)(ops:Array Oper)(lG:List RO)(fin:Option Nat)(cq:St)(q:WQ)(sd base:Nat):Nat->Nat->St->wy->Option ((List Ev×St)×wy)
 | 0,m,st,T=>match fin with
   | none=>(match lG.filter (RO.ready m)with
     | []=>some (([],st),T)
     |_::_=>none)
   |some l=>if Nat.beq m l then some (([],st),T)else none
 | n+1,m,st,T=>
   match lG.filter (RO.ready m)with
   | []=>(match fin with
     |none=>some (([],st),T)
     |some _=>none)
   | r::rs=>match ni P aR ops cq q m st (r::rs)with
     | some (r',du,a8)=>match explore P aR CU ops lG fin cq q sd base n (rV m r'.i) a8 T with
       |some ((Ao,M6),T')=>some ((du++Ao,M6),T')
       |none=>none
     | none=>match Hr (n+1) m st T with
       |some x=>some (x,T)
       | none=>match Bp aR CU cq (fun i=>q.wf (rV m i)) sd base st (fun i a8 T=>explore P aR CU ops lG fin cq q sd base n (rV m i) a8 T) r T with
         | some (x,T')=>match Hs (Bp aR CU cq (fun i=>q.wf (rV m i)) sd base st (fun i a8 T=>explore P aR CU ops lG fin cq q sd base n (rV m i) a8 T)) x rs T' with
           |some T''=>some (x,(n+1,m,st,x)::T'')
           |none=>none
         |none=>none
def noW(cq st:St):Op->Bool
 | .store _ a _=>match bB st (.c true) a with
   |some (.p id _)=>!(cq.has id)&&(gB st id).isSome
   |_=>false
 |.call {callee:=.builtin .append,..}=>false
 |.call {callee:=.builtin .copy,..}=>false
 |.call {callee:=.builtin .clear,..}=>false
 |_=>true
def P7(Df key:Nat)(st:St):Nat:=st.qd.foldl (fun m d=>if decide (key<=d.1)&&decide (d.1<Df)then max m d.2 else m) key
abbrev tM:=St->Nat->Option Tmp->Spec->Option (List Ev×St)
def Lm(P:Program)(aR:kS)(rec:tM)(ops:Array Oper)(st:St)(key:Nat)(o:Oper):Option (List Ev×St):=
 match guardOf ops st o with
 | some (.c true)=>match yU aR st (.c true) o.op with
   |some sp=>rec st key o.dst sp
   |none=>tK P aR ops st key o
 |_=>tK P aR ops st key o
def V4(P:Program)(aR:kS)(rec:tM)(ops:Array Oper)(cq:St):Z0:=fun st key o=>if noW cq st o.op then Lm P aR rec ops st key o else none
def Bq(P:Program)(aR:kS)(rec:tM)(ops:Array Oper)(Df:Nat)(cq:St):List Oper->Nat->St->Option (List Ev×St×Nat)
 | [],key,st=>some ([],st,key)
 | o::rest,key,st=>if noW cq st o.op then(match Lm P aR rec ops st key o with
   | some (du,kT)=>match Bq P aR rec ops Df cq rest (P7 Df key kT) kT with
     |some (Ao,wz,vv)=>some (du++Ao,wz,vv)
     |none=>none
   |none=>none)else none
def Fh(P:Program)(aR:kS)(rec:tM)(Df:Nat)(cq:St):Code->Nat->St->Option (List Ev×St×Nat)
 |.skip,key,st=>some ([],st,key)
 | .seq a b,key,st=>match Fh P aR rec Df cq a key st with
   | some (du,kT,Nx)=>match Fh P aR rec Df cq b Nx kT with
     |some (Ao,wz,Dg)=>some (du++Ao,wz,Dg)
     |none=>none
   |none=>none
 |.region _ ops false,key,st=>Bq P aR rec ops Df cq ops.toList key st
 | .region _ ops true,key,st=>if Region.noSelect ops&&P.follows .mixedOrders&&qi ops then(match written (V4 P aR rec ops cq) Lk key 0 ops.toList st with
   | some W=>match explore P aR (V4 P aR rec ops cq) ops (kU ops) none st (P6 ops W) Lk key ops.size 0 st []with
     |some ((du,a8),_)=>some (du,a8,P7 Df key a8)
     |none=>none
   |none=>none)else none
 |_,_,_=>none
def uS(P:Program)(aR:kS)(rec:tM)(Df:Nat)(cq:St):Code->Nat->St->Option (List Ev×St×Nat)
 | .seq a b,key,st=>match Fh P aR rec Df cq a key st with
   | some (du,kT,Nx)=>match uS P aR rec Df cq b Nx kT with
     |some (Ao,wz,Dg)=>some (du++Ao,wz,Dg)
     |none=>none
   |none=>none
 |.ret,key,st=>some ([],st,key)
 |c,key,st=>Fh P aR rec Df cq c key st
def pq(P:Program)(aR:kS)(Df:Nat):Nat->tM
 |0,_,_,_,_=>none
 |_+1,st,_,dst,.aL ok e=>if od aR.fc st then some ([.dB ok e],st.put dst ⟨.c true,.IY []⟩)else none
 | n+1,st,key,dst,.inl g vs=>match P.funcs[g]? with
   | some fn=>match fn.body with
     | some c=>if fn.name == "runtime.NumGoroutine" then none else match uS P aR (pq P aR Df n) Df st c key (rU fn vs st)with
       | some (du,a8,_)=>match tL P a8 fn.results.toList with
         |some rv=>if dH a8.has rv then some (du,wx st a8 dst (qN rv))else none
         |none=>none
       |none=>none
     |none=>none
   |none=>none
 |_+1,_,_,_,.Nt _ _=>none
 |_+1,st,_,dst,.val x=>some ([],st.put dst ⟨.c true,.v x⟩)
def mc(P:Program)(aR:kS)(ops:Array Oper)(st:St)(key:Nat)(o:Oper):Option (List Ev×St):=
 match guardOf ops st o with
 | some (.c true)=>match yU aR st (.c true) o.op with
   |some sp=>pq P aR (key+im) 4 st key o.dst sp
   |none=>tK P aR ops st key o
 |_=>tK P aR ops st key o
def tN(n:Nat)(st:St):Nat:=st.qd.foldl (fun m d=>max m d.2) n
def uT(st:St)(r:List Ev×St):Option (List Ev×St):=
 if decide (r.2.next=st.next)then some (r.1,{r.2 with next:=tN st.next r.2,qd:=[] })else none
def xC(P:Program)(aR:kS)(ops:Array Oper)(st:St):Option (List Ev×St):=
 if Region.noSelect ops&&P.follows .mixedOrders&&qi ops then(match written (mc P aR ops) im st.next 0 ops.toList st with
   | some W=>match explore P aR (mc P aR ops) ops (kU ops) none st (P6 ops W) im st.next ops.size 0 st []with
     |some (r,_)=>uT st r
     |none=>none
   |none=>none)else none
def Jr(st:St):List Nat:=st.aY.map (·.id)++(st.rows.map (·.id)++st.a7.map (·.id))
def qj(m n:Nat):List Bool:=List.replicate m true++List.replicate (n-m) false
def Fi(lG:List RO)(m:Nat):Bool:=lG.all fun r=>!tb m r.i||Nat.beq (Nat.land r.dep m) r.dep
def AK(P:Program)(aR:kS)(ops:Array Oper)(cq:St)(W:List Nat)(lo:Nat)(hi:Option Nat)(st:St):Option (List Ev×St):=
 match hi with
 |some hi=>if Fi (kU ops) (Nat.pow 2 lo-1)&&decide (hi<ops.size)&&decide (lo<=hi)&&decide (((kU ops).filter (RO.ready (Nat.pow 2 hi-1))).map RO.i=[hi])then(match explore P aR (mc P aR ops) ops (kU ops) (some (Nat.pow 2 hi-1)) cq ⟨[],some W⟩ im st.next (hi-lo) (Nat.pow 2 lo-1) st []with
     |some (r,_)=>uT st r
     |none=>none)else none
 |none=>if Fi (kU ops) (Nat.pow 2 lo-1)&&decide (lo<=ops.size)then(match explore P aR (mc P aR ops) ops (kU ops) none cq ⟨[],some W⟩ im st.next (ops.size-lo) (Nat.pow 2 lo-1) st []with
     |some (r,_)=>uT st r
     |none=>none)else none
def Js(cq:St)(W:List Nat)(st:St):Bool:=
 cq.aY.all (fun b=>W.contains b.id||decide (gB st b.id=some b))&&cq.rows.all (fun r=>W.contains r.id)
def qO(aR:kS)(st:St):St:=V3 {st with aY:=mI ⟨st.next,aR.qh,[.i .i64 (.c 0)]⟩ st.aY}
def fZ(aR:kS)(st:St):St:={qO aR st with aY:=(qO aR st).aY.filter fun b=>!aR.Hp.contains b.id}
def mu(st:St)(id:Nat)(e:IE):St:={st with aY:=st.aY.map fun b=>if b.id=id then {b with cells:=[.i .i64 e] }else b}
def wK:List Ev->au->au
 | [],t=>t
 |.dB p e::es,t=>.ite p (wK es t) (.fail e)
 |e::es,t=>.ev e (wK es t)
abbrev Ex:=Option St->FuncId->List V1->St->(List V1->St->au)->au
def Ln(aR:kS)(h:Option St)(ex:Ex)(st:St)(dst:Option Tmp)(rest:St->au):Spec->au
 |.inl g vs=>ex h g vs st fun rv a8=>rest (wx st a8 dst (qN rv))
 |.aL ok e=>.ite ok (rest (st.put dst ⟨.c true,.IY []⟩)) (Yw h st e)
 |.val x=>rest (st.put dst ⟨.c true,.v x⟩)
 |.Nt g vs=>if aR.Hp.contains st.next then .stuck "drops" else .fO (st.next+1) (rest (wx st (mu (fZ aR st) st.next (.v (st.next+1))) dst (.v (.one (.i .i64 (.v (st.next+1)))))))
     (ex (some (fZ aR st)) g vs (qO aR st) fun rv a8=>if decide (rv=[])&&decide (gB a8 st.next=some ⟨st.next,aR.qh,[.i .i64 (.c 0)]⟩)then .pop (rest (wx st a8 dst (.v (.one (.i .i64 (.c 0))))))else .stuck "try")
def kV(P:Program)(aR:kS)(h:Option St)(ops:Array Oper)(ex:Ex):List Oper->St->(St->au)->au
 | [],st,k=>k st
 | o::rest,st,k=>match guardOf ops st o with
   |none=>.stuck ("guard " ++ o.pos)
   | some G=>match yU aR st G o.op with
     | none=>(match tK P aR ops st st.next o with
       | some r=>match uT st r with
         |some (du,a8)=>wK du (kV P aR h ops ex rest a8 k)
         |none=>.stuck "names"
       |none=>.stuck ("operation " ++ o.pos ++ " slot " ++ toString (o.dst.getD 0)))
     | some sp=>
       match G with
       |.c true=>Ln aR h ex st o.dst (fun a8=>kV P aR h ops ex rest a8 k) sp
       |.c false=>kV P aR h ops ex rest (st.put o.dst kN) k
       |G=>.ite G (Ln aR h ex st o.dst (fun a8=>kV P aR h ops ex rest a8 k) sp) (kV P aR h ops ex rest ((st.know G false).put o.dst kN) k)
def P8(P:Program)(aR:kS)(ops:Array Oper)(base:Nat):Nat->List Oper->St->String
 |_,[],_=> "all"
 | i,o::rest,st=>match mc P aR ops st (base+i*im) o with
   |some (_,a8)=>P8 P aR ops base (i+1) rest a8
   |none=> "op " ++ toString i ++ " " ++ o.pos
def Br(aR:kS)(CU:Z0)(ops:Array Oper)(last:Bool)(base:Nat):Nat->Array Bool->St->Option (List Ev×St)
 |0,_,st=>some ([],st)
 | n+1,listed,st=>match(if last then(Region.ready .any ops listed).reverse else Region.ready .any ops listed)with
   | []=>some ([],st)
   | i::_=>match ops[i]? with
     |none=>none
     | some o=>match CU st (base+i*im) o with
       | some (du,a8)=>match Br aR CU ops last base n (listed.setIfInBounds i true) a8 with
         |some (Ao,M6)=>some (Bo aR.sig (du++Ao),M6)
         |none=>none
       |none=>none
def agp(P:Program)(aR:kS)(ops:Array Oper)(st:St):String:=
 match Br aR (mc P aR ops) ops false st.next ops.size (Array.replicate ops.size false) st,Br aR (mc P aR ops) ops true st.next ops.size (Array.replicate ops.size false) st with
 |some x,some y=>if x=y then "same" else "evs " ++ toString (decide (x.1=y.1)) ++ " tmps " ++ toString (decide (x.2.tmps=y.2.tmps)) ++ " blks " ++ toString (decide (x.2.aY=y.2.aY)) ++ " rows " ++ toString (decide (x.2.rows=y.2.rows)) ++ " dom " ++ toString (decide (x.2.qd=y.2.qd))++(reprStr x.1).replace "Go.Sx." "" ++ " ---- " ++ (reprStr y.1).replace "Go.Sx." ""
 |some _,none=> "none 2" |none,_=> "none 1"
def xD(P:Program)(aR:kS)(h:Option St)(ops:Array Oper)(ex:Ex)(cq:St)(W:List Nat):List Nat->Nat->St->(St->au)->au
 | [],lo,st,k=>match AK P {aR with fc:=h} ops cq W lo none st with
   |some (du,a8)=>wK du (k a8)
   |none=>.stuck ("region, end " ++ toString lo ++ " " ++ ((ops[0]?).map (·.pos)).getD "")
 | p::ps,lo,st,k=>match AK P {aR with fc:=h} ops cq W lo (some p) st with
   | some (du,a8)=>wK du (match ops[p]? with
     |some o=>kV P aR h ops ex [o] a8 fun wz=>if Js cq W wz then xD P aR h ops ex cq W ps (p+1) wz k else .stuck "region, kept"
     |none=>.stuck "tail")
   |none=>.stuck ("region, up to " ++ toString p ++ " " ++ ((ops[0]?).map (·.pos)).getD "" ++ " ready " ++ toString (Region.ready .any ops (qj p ops.size).toArray) ++ " blocks" ++ String.join (st.aY.map fun b=> " " ++ toString b.id ++ ":T" ++ toString b.ty) ++ " " ++ P8 P {aR with fc:=h} ops st.next lo ((ops.toList.drop lo).take (p-lo)) st)
def ie:Code->Option Nat
 |.region id _ _=>some id
 | .seq a b=>match ie a with
   |some i=>some i
   |none=>ie b
 | .cond _ a b=>match ie a with
   |some i=>some i
   |none=>ie b
 |.block _ a=>ie a
 |.loop a=>ie a
 |.scope a=>ie a
 |_=>none
def Ht:Code->List Nat
 |.region _ ops _=>ops.toList.filterMap (·.dst)
 |.seq a b=>Ht a++Ht b
 |.cond _ a b=>Ht a++Ht b
 |.block _ a=>Ht a
 |.loop a=>Ht a
 |.scope a=>Ht a
 |_=>[]
structure Head where
 st:St
 entry:List DE
 ks:List CT
def iB(ds:List Nat)(hr:List (Nat×TypeId×List CK))(hn:List (Nat×TypeId×List NK)):Nat->Nat->List (Option aV)->List Row->List ej->Option (List (Option aV)×List Row×List ej×List DE×List CT×Nat)
 |_,id,[],rs,ns=>some ([],rs,ns,[],[],id)
 | t,id,s::rest,rs,ns=>match hr.find? (fun h=>h.1==t)with
   | some (_,e,ks)=>match s with
     | some ⟨.c true,.v (.one .lD)⟩=>if 0<ks.length then(match iB ds hr hn (t+1) (id+1) rest rs ns with
       |some (ss,gh,rJ,es,cs,n)=>some (some ⟨.c true,.v (.one (.s id))⟩::ss,dz ⟨id,e,ks,id,true,.c true⟩ gh,rJ,.nil::es,.s e ks::cs,n)
       |none=>none)else none
     | some ⟨.c true,.v (.one (.s r))⟩=>match rs.find? (fun x=>x.id==r)with
       |some x=>if x.own&&decide (x.g = .c true)&&decide (x.e=e)&&decide (x.ks=ks)then
           (match iB ds hr hn (t+1) (id+1) rest (rs.filter fun y=>y.id≠r) ns with
           |some (ss,gh,rJ,es,cs,n)=>some (some ⟨.c true,.v (.one (.s id))⟩::ss,dz ⟨id,e,ks,id,true,.c true⟩ gh,rJ,.l x.lv::es,.s e ks::cs,n)
           |none=>none)else none
       |none=>none
     |_=>none
   |none=>match hn.find? (fun h=>h.1==t)with
   | some (_,e,aO)=>match s with
     | some ⟨.c true,.v (.one .lD)⟩=>if 0<aO.length then(match iB ds hr hn (t+1) (id+1) rest rs ns with
       |some (ss,gh,rJ,es,cs,n)=>some (some ⟨.c true,.v (.one (.s id))⟩::ss,gh,wj ⟨id,e,aO,id,.c true,true⟩ rJ,.nil::es,.n e aO::cs,n)
       |none=>none)else none
     | some ⟨.c true,.v (.one (.s r))⟩=>match ns.find? (fun x=>x.id==r)with
       |some x=>if x.own&&decide (x.e=e)&&decide (x.aO=aO)then
           (match iB ds hr hn (t+1) (id+1) rest rs (ns.filter fun y=>y.id≠r)with
           |some (ss,gh,rJ,es,cs,n)=>some (some ⟨.c true,.v (.one (.s id))⟩::ss,gh,wj ⟨id,e,aO,id,.c true,true⟩ rJ,.l x.lv::es,.n e aO::cs,n)
           |none=>none)else none
       |none=>none
     |_=>none
   |none=>if ds.contains t then
       (match s with
       | some ⟨.c true,.v (.one (.i k e))⟩=>match iB ds hr hn (t+1) (id+1) rest rs ns with
         |some (ss,gh,rJ,es,cs,n)=>some (some ⟨.c true,.v (.one (.i k (.v id)))⟩::ss,gh,rJ,.i e::es,.c (.i k)::cs,n)
         |none=>none
       | some ⟨.c true,.v (.one (.b e))⟩=>match iB ds hr hn (t+1) (id+1) rest rs ns with
         |some (ss,gh,rJ,es,cs,n)=>some (some ⟨.c true,.v (.one (.b (.v id)))⟩::ss,gh,rJ,.b e::es,.c .b::cs,n)
         |none=>none
       | _=>match iB ds hr hn (t+1) id rest rs ns with
         |some (ss,gh,rJ,es,cs,n)=>some (none::ss,gh,rJ,es,cs,n)
         |none=>none)
     else match iB ds hr hn (t+1) id rest rs ns with
       |some (ss,gh,rJ,es,cs,n)=>some (s::ss,gh,rJ,es,cs,n)
       |none=>none
def eM(fi:List Nat)(base:Nat):Nat->List Row->List Row×List DE×List CT
 |_,[]=>([],[],[])
 |id,r::rs=>if fi.contains r.id&&decide (r.id<base)&&r.own&&decide (r.g = .c true)then
     ({r with lv:=id}::(eM fi base (id+1) rs).1,.l r.lv::(eM fi base (id+1) rs).2.1,.s r.e r.ks::(eM fi base (id+1) rs).2.2)
   else(r::(eM fi base id rs).1,(eM fi base id rs).2.1,(eM fi base id rs).2.2)
def rW(l:ai):Option aV:=some ⟨.c true,.v (.one l)⟩
def eY:List iQ->List (Option aV)
 | []=>[]
 |b::bs=>b.cells.map rW++eY bs
def Jt:Option aV->Option ai
 |some ⟨.c true,.v (.one l)⟩=>some l
 |_=>none
def oe:List (Option aV)->Option (List ai)
 | []=>some []
 | s::ss=>match Jt s,oe ss with
   |some l,some ls=>some (l::ls)
   |_,_=>none
def Bs:List iQ->List (Option aV)->Option (List iQ)
 | [],_=>some []
 | b::bs,ss=>match oe (ss.take b.cells.length),Bs bs (ss.drop b.cells.length)with
   |some cs,some Yx=>some ({b with cells:=cs}::Yx)
   |_,_=>none
def D6(hs:List (Nat×Nat))(cr:List (Nat×Nat×TypeId×List CK))(st:St):Nat->List iQ->List Nat×List (Nat×TypeId×List CK)×List (Nat×TypeId×List NK)
 |_,[]=>([],[],[])
 | t,b::bs=>
   let js:=(List.range b.cells.length).filter fun j=>hs.contains (b.id,j)
   let r:=D6 hs cr st (t+b.cells.length) bs
   (js.map (t + ·)++r.1,(js.filterMap fun j=>match b.cells[j]? with
     |some (ai.s q)=>(bJ st q).map fun x=>(t+j,x.e,x.ks)
     |some ai.lD=>(cr.find? fun x=>x.1==b.id&&x.2.1==j).map fun x=>(t+j,x.2.2.1,x.2.2.2)
     |_=>none)++r.2.1,(js.filterMap fun j=>match b.cells[j]? with
     | some (ai.s q)=>match bJ st q with
       |some _=>none
       |none=>(fh st q).map fun x=>(t+j,x.e,x.aO)
     |_=>none)++r.2.2)
def Ju(c:Code)(h:Hint)(st:St):Option Head:=
 let r:=D6 h.cells h.adn st st.tmps.length st.aY
 match iB (Ht c++r.1) (h.rows++r.2.1) (h.a7++r.2.2) 0 st.next (st.tmps++eY st.aY) st.rows st.a7 with
 |none=>none
 | some (ss,rs,ns,es,ks,n)=>match Bs st.aY (ss.drop st.tmps.length)with
   |some bs=>some {st:={tmps:=ss.take st.tmps.length,aY:=bs,rows:=(eM h.fi st.next n rs).1,a7:=ns,next:=n+(eM h.fi st.next n rs).2.1.length,qd:=[] },entry:=es++(eM h.fi st.next n rs).2.1,ks:=ks++(eM h.fi st.next n rs).2.2}
   |none=>none
def nodupB:List Nat->Bool
 | []=>true
 |x::xs=>!xs.contains x&&nodupB xs
def Bt(base id:Nat)(h l:ai):Option (List (DE×Option Nat)):=
 if h=l/\h.all (fun k=>decide (k<base))=true then some []else
 match h,l with
 |.i k (.v j),.i k' e=>if j=id/\k=k' then some [(.i e,none)]else none
 |.b (.v j),.b e=>if j=id then some [(.b e,none)]else none
 |_,_=>none
def Bu(base:Nat)(st:St)(id:Nat)(h s:Option aV):Option (List (DE×Option Nat)):=
 match h with
 |none=>some []
 | some h=>if s=some h/\h.all (fun k=>decide (k<base))=true then some []else
   match h,s with
   | ⟨.c true,.v (.one (.s j))⟩,some ⟨.c true,.v (.one (.s r))⟩=>if j=id then(match bJ st r with
     |some y=>some [(.l y.lv,some r)]
     | none=>match fh st r with
       |some y=>some [(.l y.lv,some r)]
       |none=>none)else none
   |⟨.c true,.v (.one (.s j))⟩,some ⟨.c true,.v (.one .lD)⟩=>if j=id then some [(.nil,none)]else none
   |⟨.c true,.v (.one a)⟩,some ⟨.c true,.v (.one b)⟩=>Bt base id a b
   |_,_=>none
def qP(base:Nat)(st:St):Nat->List (Option aV)->List (Option aV)->Option (List (DE×Option Nat))
 |_,[],[]=>some []
 | id,h::hs,s::ss=>match Bu base st id h s with
   | some d=>match qP base st (id+d.length) hs ss with
     |some ds=>some (d++ds)
     |none=>none
   |none=>none
 |_,_,_=>none
def sameShape(base:Nat)(st:St):List iQ->Option (List iQ)
 | []=>some []
 | h::hs=>match gB st h.id,sameShape base st hs with
   |some b,some bs=>if b.ty=h.ty/\h.id<base/\b.cells.length=h.cells.length then some (b::bs)else none
   |_,_=>none
def Lo(base:Nat)(st:St)(L:List (DE×Option Nat))(x:Row):Bool:=
 if x.id<base then(if x.lv<base then decide (bJ st x.id=some x)&&x.all (fun k=>decide (k<base))
   else x.own&&decide (x.g = .c true)&&(match L[x.lv-base]?,bJ st x.id with
     |some (.l lv,none),some y=>y.own&&decide (y.g = .c true)&&decide (y.e=x.e)&&decide (y.ks=x.ks)&&decide (y.lv=lv)
     |_,_=>false))
 else decide (x.lv=x.id)&&x.own&&decide (x.g = .c true)&&(match L[x.id-base]? with
   | some (.l lv,some r)=>(match bJ st r with
     |some y=>y.own&&decide (y.g = .c true)&&decide (y.e=x.e)&&decide (y.ks=x.ks)&&decide (y.lv=lv)
     |none=>false)
   |some (.nil,none)=>decide (0<x.ks.length)
   |_=>false)
def Bv(base:Nat)(st:St)(L:List (DE×Option Nat))(x:ej):Bool:=
 if x.id<base then decide (fh st x.id=some x)&&x.all (fun k=>decide (k<base))
 else decide (x.lv=x.id)&&x.own&&decide (x.g = .c true)&&(match L[x.id-base]? with
   | some (.l lv,some r)=>(match bJ st r,fh st r with
     |none,some y=>y.own&&decide (y.e=x.e)&&decide (y.aO=x.aO)&&decide (y.lv=lv)
     |_,_=>false)
   |some (.nil,none)=>decide (0<x.aO.length)
   |_=>false)
def tO:CT->DE->Bool
 |.c (.i _),.i _=>true
 |.c .b,.b _=>true
 |.c .f,.i _=>true
 |.s _ _,.l _=>true
 |.s _ _,.nil=>true
 |.n _ _,.l _=>true
 |.n _ _,.nil=>true
 |_,_=>false
def uU:List CT->List DE->Bool
 | [],[]=>true
 |c::cs,d::ds=>tO c d&&uU cs ds
 |_,_=>false
def origins(L:List (DE×Option Nat)):List Nat:=L.filterMap (·.2)
def P9(base:Nat)(st:St):Nat->List Row->Option (List (DE×Option Nat))
 |_,[]=>some []
 |id,x::xs=>if x.id<base/\base<=x.lv then(if x.lv=id then(match bJ st x.id,P9 base st (id+1) xs with
     |some y,some L=>some ((.l y.lv,none)::L)
     |_,_=>none)else none)else P9 base st id xs
def back(base:Nat)(ks:List CT)(h st:St):Option (List DE):=
 match sameShape base st h.aY with
 | some bs=>match qP base st base (h.tmps++eY h.aY) (st.tmps++eY bs)with
   | some L1=>match P9 base st (base+L1.length) h.rows with
     | some L2=>if decide (h.tmps.length=st.tmps.length)&&(h.rows.all (Lo base st (L1++L2))&&nodupB (origins (L1++L2))&&(origins (L1++L2)).all (fun r=>!(h.rows.any fun x=>decide (x.id<base)&&x.id==r) && !(h.a7.any fun x=>decide (x.id<base)&&x.id==r))&&uU ks ((L1++L2).map (·.1)))&&h.a7.all (Bv base st (L1++L2))
       then some ((L1++L2).map (·.1))else none
     |none=>none
   |none=>none
 |none=>none
inductive K where
 |code (c:Code)
 |nJ (id:Nat)
 |loop (c:Code)
 |Ax (c:Code) (id base:Nat) (head:St) (ks:List CT)
def xE(id:Nat):List K->Option (List K)
 | []=>none
 |.nJ sV::k=>if sV=id then some k else xE id k
 |_::k=>xE id k
def xF(id:Nat):List K->Bool
 | []=>false
 |.Ax _ sV _ _ _::k=>sV==id||xF id k
 |_::k=>xF id k
def rowsOf:List V1->List Nat
 | []=>[]
 |v::vs=>(v.leaves.filterMap fun| .s r=>some r|_=>none)++rowsOf vs
def rX(res:List VT)(vs:List V1)(st:St):au:=
 match res,vs with
 | [.ptr e ks],[.one (.p id 0)]=>(match gB st id with
   | some b=>if decide (b.ty=e)&&decide (0<ks.length)then(match eV ks b.cells with
     |some xs=>.ret [.vu xs]
     |none=>.stuck "ret. cells")else .stuck "ret. block"
   |none=>.stuck "ret. no block")
 | res,vs=>match oc st (.c true) res vs with
   |some ds=>if iS res&&nodupB (rowsOf vs)&&(rowsOf vs).all (fun r=>match bJ st r with|some x=>x.own&&decide (x.g = .c true)|none=>false)
       then .ret ds else if fm res&&(bL res).any CT.yu&&rT (bL res)&&(rowsOf vs).all (fun r=>match bJ st r,fh st r with|none,some x=>x.own|_,_=>false)
       then .ret ds else .stuck "ret. a row that is not own"
   |none=>.stuck "ret. types"
def og(sg:bW)(vs:List V1)(st:St):au:=
 match oc st (.c true) sg.res vs with
 |some ds=>if iS sg.res&&yT (cU (bG vs))&&(cU (bG vs)).all (fun r=>match bJ st r with
     |some x=>decide (x.g = .c true)&&(x.own||(decide (x.id<sg.cons)&&decide (x.lv=x.id)&&decide ((bL sg.args)[x.id]?=some (.s x.e x.ks))))
     |none=>false)
     then .ret ds else .stuck "ret. a row that is neither own nor handed over"
 |none=>.stuck "ret. types"
def V5(P:Program)(fn:Func)(st:St)(kr:List V1->St->au):au:=
 match tL P st fn.results.toList with
 |some vs=>if dH st.has vs then kr vs st else .stuck "ret. names"
 |none=>.stuck "ret. a result"
def ai.fix(k:Nat)(v:Int):ai->ai
 |.i kd (.v j)=>if j=k then .i kd (.c v)else .i kd (.v j)
 |l=>l
def V1.fix(k:Nat)(v:Int):V1->V1
 |.one l=>.one (l.fix k v)
 |.agg ls=>.agg (ls.map (ai.fix k v))
def SV.fix(k:Nat)(v:Int):SV->SV
 |.v x=>.v (x.fix k v)
 |.IY xs=>.IY (xs.map (V1.fix k v))
def St.fix(st:St)(k:Nat)(v:Int):St:=
 {st with tmps:=st.tmps.map (fun s=>s.map fun s=>{s with sv:=s.sv.fix k v}),aY:=st.aY.map fun b=>{b with cells:=b.cells.map (ai.fix k v) } }
def P'(no:List (Nat×Int)):BE->Bool
 |.eq (.v k) (.c n)=>no.contains (k,n)
 |_=>false
def Bw(k:Nat)(f:Int->au)(d:au):List Nat->au
 | []=>d
 |v::vs=>.ite (.eq (.v k) (.c (v:Int))) (f (v:Int)) (Bw k f d vs)
def Jv(k:Nat)(f:Int->au):List Nat->au
 | []=>.stuck "split"
 |v::vs=>.ite (.eq (.v k) (.c (v:Int))) (f (v:Int)) (Jv k f vs)
def Fj(go:St->au):List (Nat×Nat×Nat)->St->au
 | [],st=>go st
 |(_,x,m)::ps,st=>Jv x (fun v=>Fj go ps (st.fix x v)) (List.range m)
def gid(f:FuncId)(i:Nat):Nat:=f*1000+i
def oh:List K->List Nat
 | []=>[]
 |.Ax _ id _ _ _::k=>id::oh k
 |_::k=>oh k
def Fm(P:Program)(aR:kS)(h:Option St)(ops:Array Oper)(draw:Bool)(tail:Option (List Nat×List Nat))(ex:Ex)(st:St)(k:St->au):au:=
 if draw then(match tail with
   |some (ps,kb)=>if Region.noSelect ops&&P.follows .mixedOrders&&qi ops then xD P aR h ops ex st ((Jr st).filter fun i=>!kb.contains i) ps 0 st k else .stuck "region, select"
   | none=>(match xC P {aR with fc:=h} ops st with
     |some (du,a8)=>wK du (k a8)
     |none=>.stuck ("region " ++ ((ops[0]?).map (·.pos)).getD "" ++ " " ++ agp P {aR with fc:=h} ops st ++ " " ++ P8 P {aR with fc:=h} ops st.next 0 ops.toList st)))
 else kV P aR h ops ex ops.toList st k
def V6(P:Program)(run:Option St->FuncId->Func->Code->St->(List V1->St->au)->au):Ex:=fun h g vs st kr=>match P.funcs[g]? with
 | some fn=>(match fn.body with
   |some c=>if fn.name == "runtime.NumGoroutine" then .stuck "NumGoroutine" else run h g fn c (rU fn vs st) kr
   |none=>.stuck "no body")
 |none=>.stuck "no function"
def Qa(base:Nat)(h st:St):String:=
 "again; cells:" ++ String.join (h.aY.map fun b=>match gB st b.id with
   | some c=>String.join ((List.range b.cells.length).filterMap fun j=>match b.cells[j]?,c.cells[j]? with
     |some x,some y=>if x=y||(match x with| .i _ (.v k)=>decide (base<=k)| .b (.v k)=>decide (base<=k)| .s k=>decide (base<=k)|_=>false)then none else some (" " ++ toString b.id ++ ":" ++ toString j)
     |_,_=>none)
   | none=> " no " ++ toString b.id) ++ "; slots:" ++ String.join ((List.range h.tmps.length).filterMap fun t=>match h.tmps[t]?,st.tmps[t]? with
     |some (some x),some y=>if some x=y then none else some (" " ++ toString t)
     |_,_=>none) ++ "; rows:" ++ String.join (h.rows.filterMap fun r=>if bJ st r.id=some r||decide (base<=r.id)then none else some (" " ++ toString r.id))
def exec(P:Program)(aR:kS):Nat->Option St->List Nat->FuncId->Func->List K->St->(List V1->St->au)->au
 |0,_,_,_,_,_,_,_=>.stuck "fuel"
 |_+1,_,_,_,fn,[],st,kr=>V5 P fn st kr
 |n+1,h,L,f,fn,.nJ _::k,st,kr=>exec P aR n h L f fn k st kr
 |n+1,h,L,f,fn,.loop c::k,st,kr=>exec P aR n h L f fn (.code c :: .loop c::k) st kr
 | _+1,_,_,_,_,.Ax _ id base hd ks::_,st,_=>match back base ks hd st with
   |some bP=>.again id bP
   |none=>.stuck (toString id ++ " " ++ Qa base hd st)
 | n+1,h,L,f,fn,.code c::k,st,kr=>match c with
   |.skip=>exec P aR n h L f fn k st kr
   |.label _=>exec P aR n h L f fn k st kr
   |.seq a b=>exec P aR n h L f fn (.code a :: .code b::k) st kr
   | .cond x a b=>match bB st (.c true) x with
     |some (.b (.c true))=>exec P aR n h L f fn (.code a::k) st kr
     |some (.b (.c false))=>exec P aR n h L f fn (.code b::k) st kr
     |some (.b p)=>if P' aR.no p then exec P aR n h L f fn (.code b::k) st kr else .ite p (exec P aR n h L f fn (.code a::k) st kr) (exec P aR n h L f fn (.code b::k) st kr)
     |_=>.stuck "cond"
   |.block id c=>exec P aR n h L f fn (.code c :: .nJ id::k) st kr
   | .loop c=>match(ie c).bind (fun i=>(aR.loops.find? (fun p=>p.1==gid f i)).map fun p=>(gid f i,p.2))with
     |none=>exec P aR n h L f fn (.code c :: .loop c::k) st kr
     | some (i,hn)=>match Ju c hn st with
       |some hd=>if xF i k||L.contains i then .stuck "loop in itself" else .loop i hd.entry hd.ks st.next (exec P aR n h L f fn (.code c :: .Ax c i st.next hd.st hd.ks::k) hd.st kr)
       |none=>.stuck "loop head"
   | .exit id=>match xE id k with
     |some k'=>exec P aR n h L f fn k' st kr
     |none=>.stuck "exit"
   |.ret=>V5 P fn st kr
   | .region id ops draw=>
     let ex:Ex:=V6 P (fun h' g Pg c a8 kr'=>exec P aR n h' (L++oh k) g Pg [.code c] a8 kr')
     let go:St->au:=fun st=>Fm P aR h ops draw ((aR.Yt.find? fun p=>p.1==gid f id).map (·.2)) ex st (fun a8=>exec P aR n h L f fn k a8 kr)
     Fj go (aR.splits.filter fun p=>p.1==gid f id) st
   |_=>.stuck "code"
def mv(args:List VT):List V1×List Row:=
 let(vs,rows):=cg (.c true) 0 args
 (vs,rows.map fun r=>{r with own:=false})
def start(fn:Func)(args:List VT):St:=
 let(vs,rows):=mv args
 {tmps:=vs.map (fun v=>some ⟨.c true,.v v⟩)++List.replicate (fn.ntmps-vs.length) none,aY:=[],rows,a7:=ew false (.c true) 0 (bL args),next:=(bL args).length,qd:=[] }
def tP(P:Program)(aR:kS)(f:FuncId)(fn:Func)(sg:bW)(fuel:Nat):au:=
 match fn.body with
 | some c=>
   let ret:=if sg.cons=0 then rX sg.res else og sg
   match aR.Ff with
   |none=>exec P aR fuel none [] f fn [.code c] (start fn sg.args) ret
   |some (x,m)=>if decide (x<(start fn sg.args).next)then Bw x (fun v=>exec P aR fuel none [] f fn [.code c] ((start fn sg.args).fix x v) ret)
       (exec P {aR with no:=(List.range m).map fun(v:Nat)=>(x,(v:Int)) } fuel none [] f fn [.code c] (start fn sg.args) ret) (List.range m)else .stuck "split"
 |none=>.stuck "no body"
def eQ(ks:List BE):BE->Bool
 |.and a b=>ks.contains (.and a b)||(eQ ks a&&eQ ks b)
 |.or a b=>ks.contains (.or a b)||(eQ ks a||eQ ks b)
 |.c true=>true
 |p=>ks.contains p
def tQ(ks:List BE):BE->BE
 |.or (.not g) n=>if eQ ks g then n else .or (.not g) n
 |p=>p
def jP(p:BE)(ks:List BE):List BE:=
 match p with
 |.and a b=>.and a b::jP a (jP b ks)
 |p=>p::ks
def prune(ks:List BE):au->au
 |.ret vs=>.ret vs
 |.stuck _=>.stuck ""
 |.ev (.aL p) t=>if eQ ks (tQ ks p)then prune ks t else .ev (.aL (tQ ks p)) (prune (jP (tQ ks p) ks) t)
 |.ev e t=>.ev e (prune [] t)
 |.ite c a b=>.ite c (prune (jP c ks) a) (prune ((BE.not c).mk::ks) b)
 |.loop id es kd base body=>.loop id es kd base (prune [] body)
 |.again id vs=>.again id vs
 |.fail e=>.fail e
 |.fO x tp t=>.fO x (prune [] tp) (prune ks t)
 |.pop t=>.pop (prune ks t)
def tR(l:List (FuncId×bW)):FuncId->Option bW:=fun f=>(l.find? fun p=>p.1==f).map (·.2)
theorem IE.cz(ae:aH)(e:IE):e.mk.af ae=e.af ae:=by
 unfold IE.mk;split<;>simp[IE.af];split<;>simp_all
theorem BE.cz(ae:aH)(e:BE):e.mk.af ae=e.af ae:=by
 unfold BE.mk;split<;>simp only[BE.af,IE.af,Bool.not_not,Bool.true_and,Bool.false_and,Bool.and_true,Bool.or_false,Bool.false_or,Bool.true_or]
 all_goals first|rfl|(generalize BE.af ae _=y;cases y<;>rfl)
theorem BE.cW{ae:aH}{g:BE}(h:G.ji g=true)(hG:G.af ae=true):g.af ae=true:=by
 induction G with
 | and x y pV qu=>
   unfold BE.ji at h;simp only[BE.af,ao]at hG;simp only[ig,aM]at h;rcases h with(rfl|rfl)|(h|h);rfl;simp[BE.af,hG];exact pV h hG.1;exact qu h hG.2
 | _=>
   unfold BE.ji at h;simp only[ig,aM]at h;rcases h with(rfl|rfl)|h;rfl;exact hG;cases h
theorem BE.DL{ae:aH}{n:BE}(hG:G.af ae=true)(h:(BE.under G n).af ae=true):n.af ae=true:=by
 unfold BE.under at h;split at h;exact h;simpa[BE.af,hG]using h
theorem VJ{ae:aH}{k:IntKind}{e:IE}(h:(Yo k e).af ae=true):k.min<=e.af ae/\e.af ae<=k.max:=by
 unfold Yo at h;split at h
 all_goals
   simp only[BE.af,IE.af,ao,aM]at h ⊢
   first|exact h|exact⟨mW h.1,mW h.2⟩
theorem IE.aq{p:Nat->Bool}{ae ak:aH}(h:∀k,p k=true->ae k=ak k):∀ {e:IE},e.all p=true->e.af ae=e.af ak:=by
 intro e;induction e with
 |v k=>intro ha;simp only[IE.all]at ha;simp[IE.af,h k ha]
 |c n=>intro _;rfl
 |len k=>intro ha;simp only[IE.all]at ha;simp[IE.af,h k ha]
 |get k i j ih=>intro ha;simp only[IE.all,ao]at ha;simp[IE.af,h k ha.1,ih ha.2]
 |jZ i n a b vp vq ZG=>intro ha;simp only[IE.all,ao]at ha;simp[IE.af,vp ha.1,vq ha.2.1,ZG ha.2.2]
 |ediv a n ih=>intro ha;simp only[IE.all]at ha;simp[IE.af,ih ha]
 |emod a n ih=>intro ha;simp only[IE.all]at ha;simp[IE.af,ih ha]
 |wrap k a ih=>intro ha;simp only[IE.all]at ha;simp[IE.af,ih ha]
 |bits op k a b vp vq=>intro ha;simp only[IE.all,ao]at ha;simp[IE.af,vp ha.1,vq ha.2]
 |_ a b vp vq=>intro ha;simp only[IE.all,ao]at ha;simp[IE.af,vp ha.1,vq ha.2]
theorem BE.aq{p:Nat->Bool}{ae ak:aH}(h:∀k,p k=true->ae k=ak k):∀ {e:BE},e.all p=true->e.af ae=e.af ak:=by
 intro e;induction e with
 |v k=>intro ha;simp only[BE.all]at ha;simp[BE.af,h k ha]
 |c n=>intro _;rfl
 |not a ih=>intro ha;simp only[BE.all]at ha;simp[BE.af,ih ha]
 |sP a=>intro ha;simp only[BE.all]at ha;simp[BE.af,IE.aq h ha]
 |and a b vp vq=>intro ha;simp only[BE.all,ao]at ha;simp[BE.af,vp ha.1,vq ha.2]
 |or a b vp vq=>intro ha;simp only[BE.all,ao]at ha;simp[BE.af,vp ha.1,vq ha.2]
 |iff a b vp vq=>intro ha;simp only[BE.all,ao]at ha;simp[BE.af,vp ha.1,vq ha.2]
 |lt a b=>intro ha;simp only[BE.all,ao]at ha;simp[BE.af,IE.aq h ha.1,IE.aq h ha.2]
 |le a b=>intro ha;simp only[BE.all,ao]at ha;simp[BE.af,IE.aq h ha.1,IE.aq h ha.2]
 |eq a b=>intro ha;simp only[BE.all,ao]at ha;simp[BE.af,IE.aq h ha.1,IE.aq h ha.2]
structure bA(p:Nat->Bool)(ae ak:aH)(ph aQ:Ph):Prop where
 e:∀k,p k=true->ae k=ak k
 r:∀k,p k=true->ph.r k=aQ.r k
 v:∀k,p k=true->ph.v k=aQ.v k
variable {p:Nat->Bool}{ae ak:aH}{ph aQ:Ph}
theorem dx.aq(h:bA p ae ak ph aQ):∀ {l:dx},l.all p=true->l.af ae ph=l.af ak aQ:=by
 intro l ha;cases l with
 |i k e=>simp only[dx.all]at ha;simp[dx.af,IE.aq h.e ha]
 |b e=>simp only[dx.all]at ha;simp[dx.af,BE.aq h.e ha]
 |s row=>simp only[dx.all]at ha;simp[dx.af,Ph.val,h.v _ ha]
 |lD=>rfl
theorem dx.ET{l:dx}:l.up.af ae ph=l.af ae ph:=by cases l<;>rfl
theorem ai.down_up{l:ai}{x:dx}(h:l.down=some x):l=x.up:=by
 cases l<;>simp_all[ai.down]<;>(subst h;rfl)
theorem ai.aq(h:bA p ae ak ph aQ):∀ {l:ai},l.all p=true->l.af ae ph=l.af ak aQ:=by
 intro l ha;cases l with
 |i k e=>simp only[ai.all]at ha;simp[ai.af,IE.aq h.e ha]
 |b e=>simp only[ai.all]at ha;simp[ai.af,BE.aq h.e ha]
 |p id off=>simp only[ai.all]at ha;simp[ai.af,h.r _ ha]
 |ep row sz x j=>simp only[ai.all,ao]at ha;simp[ai.af,h.v _ ha.1,IE.aq h.e ha.2]
 |pi id off sz n x=>simp only[ai.all,ao]at ha;simp[ai.af,h.r _ ha.1,IE.aq h.e ha.2]
 |s row=>simp only[ai.all]at ha;simp[ai.af,Ph.val,h.v _ ha]
 |lD=>rfl
 |VK=>rfl
 |f g=>rfl
 | fn g dF=>
   simp only[ai.all,kG]at ha;simp only[ai.af];congr 2;exact xh fun c hc=>by
     unfold mG;rw[h.r _ (ha c hc),h.v _ (ha c hc)]
 |fl e=>simp only[ai.all]at ha;simp[ai.af,IE.aq h.e ha]
 |str bs=>rfl
 |VL=>rfl
 |I9=>rfl
 | bf g agg ls=>
   simp only[ai.all,kG]at ha;have e:ls.map (dx.af ae ph)=ls.map (dx.af ak aQ):=xh fun c hc=>dx.aq h (ha c hc);simp only[ai.af,e]
 |vw row sz lo n=>simp only[ai.all,ao]at ha;simp[ai.af,h.v _ ha.1,IE.aq h.e ha.2.1,IE.aq h.e ha.2.2]
 |cs row=>simp only[ai.all]at ha;simp[ai.af,h.v _ ha]
 |bs id n sz=>simp only[ai.all]at ha;simp[ai.af,h.r _ ha]
 |kb row bs=>simp only[ai.all]at ha;simp[ai.af,Ph.val,h.v _ ha]
 |ab row m b=>simp only[ai.all]at ha;simp[ai.af,h.v _ ha]
theorem kH(h:bA p ae ak ph aQ):∀ {ls:List ai},bt p ls=true->ls.map (ai.af ae ph)=ls.map (ai.af ak aQ):=by
 intro ls;induction ls with
 |nil=>intro _;rfl
 | cons l ls ih=>
   intro ha;simp only[bt,ao]at ha;simp only[kD,ai.aq h ha.1,ih ha.2]
theorem V1.aq(h:bA p ae ak ph aQ):∀ {x:V1},x.all p=true->x.af ae ph=x.af ak aQ:=by
 intro x ha;cases x with
 |one l=>exact ai.aq h ha
 |agg ls=>simp only[V1.all]at ha;simp only[V1.af,kH h ha]
theorem DM(h:bA p ae ak ph aQ):∀ {xs:List V1},dH p xs=true->xs.map (V1.af ae ph)=xs.map (V1.af ak aQ):=by
 intro ls;induction ls with
 |nil=>intro _;rfl
 | cons l ls ih=>
   intro ha;simp only[dH,ao]at ha;simp only[kD,V1.aq h ha.1,ih ha.2]
theorem SV.aq(h:bA p ae ak ph aQ):∀ {x:SV},x.all p=true->x.af ae ph=x.af ak aQ:=by
 intro x ha;cases x with
 |v x=>exact V1.aq h ha
 |IY xs=>simp only[SV.all]at ha;simp only[SV.af,DM h ha]
theorem aV.aq(h:bA p ae ak ph aQ){s:aV}(ha:s.all p=true):s.af ae ph=s.af ak aQ:=by
 simp only[aV.all,ao]at ha;simp only[aV.af,BE.aq h.e ha.1,SV.aq h ha.2]
end
section
open Go.RowKit
variable{w:World}{B:Nat}{ae:aH}{ph:Ph}{st:St}{v:Value}{w':World}{z z':Nat->Prop}{aO:List NK}{aQ:Ph}{ak:aH}{e:TypeId}{n:ej}{aY:List iQ}{k:Nat}
def CK.val:CK->Int->Value
 |.i k,n=>.int k n
 |.b,n=>.bool (decide (n≠0))
 |.f,n=>.float .f64 n.toNat
def bS:List CK->Nat->List Int->List Value
 | [],_,_=>[]
 |k::ks,j,r=>k.val (r.getD j 0)::bS ks (j+1) r
def aF(ks:List CK):List (List Int)->List Value
 | []=>[]
 |r::rs=>bS ks 0 r++aF ks rs
theorem cJ(ks:List CK):∀j r,(bS ks j r).length=ks.length:=by
 induction ks with
 |nil=>intro j r;rfl
 |cons k ks ih=>intro j r;simp[bS,ih]
theorem jk(ks:List CK):∀(j0:Nat) (r:List Int) (j:Nat),(bS ks j0 r)[j]?=(ks[j]?).map fun k=>k.val (r.getD (j0+j) 0):=by
 induction ks with
 |nil=>intro j0 r j;simp[bS]
 | cons k ks ih=>
   intro j0 r j;cases j with
   |zero=>simp[bS]
   | succ j=>
     simp only[bS,A1,ih];rw[show j0+1+j=j0+(j+1)by omega]
theorem bT(ks:List CK)(xs:List (List Int)):(aF ks xs).length=xs.length*ks.length:=by
 induction xs with
 |nil=>simp[aF]
 |cons r rs ih=>simp[aF,cJ,ih,lR,Nat.add_comm]
theorem mH(ks:List CK)(xs ys:List (List Int)):aF ks (xs++ys)=aF ks xs++aF ks ys:=by
 induction xs with
 |nil=>rfl
 |cons r rs ih=>simp[aF,ih]
theorem mX(ks:List CK):∀(xs:List (List Int)) (i j:Nat),i<xs.length->j<ks.length->
   (aF ks xs)[i*ks.length+j]?=(ks[j]?).map fun k=>k.val ((xs.getD i []).getD j 0):=by
 intro xs;induction xs with
 |nil=>intro i j hi;simp at hi
 | cons r rs ih=>
   intro i j hi hj;cases i with
   | zero=>
     simp only[aF,Nat.zero_mul,gK];rw[qw (by rw[cJ];exact hj),jk];simp
   | succ i=>
     simp only[aF];rw[s8 (by rw[cJ,lR];omega),cJ];have e:(i+1)*ks.length+j-ks.length=i*ks.length+j:=by rw[lR];omega
     rw[e,ih i j (by simpa using hi) hj];simp
theorem CK.pc(k:CK)(n:Int):(k.val n).oneCell'=true:=by cases k<;>rfl
theorem jl(ks:List CK)(xs:List (List Int)):∀u∈aF ks xs,u.oneCell'=true:=by
 have bl:∀(ks:List CK) j r,∀u∈bS ks j r,u.oneCell'=true:=by
   intro ks;induction ks with
   |nil=>intro j r u hu;simp[bS]at hu
   | cons k ks ih=>
     intro j r u hu;simp only[bS,bF]at hu;rcases hu with rfl|hu;exact CK.pc _ _;exact ih _ _ u hu
 induction xs with
 |nil=>intro u hu;simp[aF]at hu
 | cons r rs ih=>
   intro u hu;simp only[aF,mi]at hu;rcases hu with hu|hu;exact bl _ _ _ u hu;exact ih u hu
def Reads(w:World)(v:Value)(n:Nat)(cells:List Value):Prop:=
 ∃base cap,v = .slice base n cap/\(n<=maxLen/\n<=cap)/\(base=none->n=0/\cap=0)/\∀j u,cells[j]?=some u->∃a,base=some a/\w.cell? (a.add j)=some u
theorem pW{sz:Nat}{n:Nat}{xs:List Value}(h:w.ownsRow B e sz v n xs):Reads w v n xs:=by
 have h':=h;obtain⟨hl,⟨rfl,rfl⟩|⟨g,cap,cur,rfl,hg,hh,hn,hc,hs,ht⟩⟩:=h;refine⟨none,0,rfl,⟨Nat.zero_le _,Nat.zero_le _⟩,fun _=>⟨rfl,rfl⟩,fun j u hj=>?_⟩;rw[Nat.zero_mul]at hl;rw[C1 hl]at hj;simp at hj;refine⟨some ⟨g,0,none⟩,cap,rfl,⟨kI hn hc,hn⟩,fun h=>by simp at h,fun j u hj=>⟨_,rfl,?_⟩⟩;exact h'.cells (by simp[Value.ownBlock]) j u hj
def gH(B:Nat)(ae:aH)(ph:Ph)(r:Row)(w:World):Prop:=
 0<r.ks.length/\
 (if r.own then w.ownsRow B r.e r.ks.length (ph.val r.id) (ae r.lv).list.length (aF r.ks (ae r.lv).list)
  else Reads w (ph.val r.id) (ae r.lv).list.length (aF r.ks (ae r.lv).list))
theorem gH.reads{r:Row}(h:gH B ae ph r w) :
   Reads w (ph.val r.id) (ae r.lv).list.length (aF r.ks (ae r.lv).list):=by
 obtain⟨_,h⟩:=h;split at h;exact pW h;exact h
def Row.b9(ae:aH)(ph:Ph)(r:Row):Option Nat:=if r.own||decide ((ae r.lv).list.length≠0)then(ph.val r.id).ownBlock else none
theorem gH.uK{r:Row}(h:gH B ae ph r w)(hk:r.b9 ae ph=some k):k<w.heap.size:=by
 obtain⟨h0,h⟩:=h;unfold Row.b9 at hk;split at hk;rename_i hc;split at h;exact(h.lt k hk).2;rename_i ho;have cV:(ae r.lv).list.length≠0:=by simpa[ho]using hc
 obtain⟨base,cap,hv,_,_,iW⟩:=h;have hl:=bT r.ks (ae r.lv).list;have kJ:0<(aF r.ks (ae r.lv).list).length:=by rw[hl];exact Nat.mul_pos (by omega) h0
 obtain⟨a,rfl,ha⟩:=iW 0 _ (eT kJ);rw[hv]at hk;simp only[Value.ownBlock,ah]at hk;have:=World.block_lt_of_cell? w (a.add 0) ha;rw[Addr.add_zero']at this;omega;cases hk
def vA(B:Nat)(ae:aH)(ph:Ph)(b:iQ)(w:World):Prop:=
 B<=ph.r b.id/\w.heap[ph.r b.id]?=some (.cells (b.cells.map (ai.af ae ph)).toArray b.ty (0,0))
structure kn(B:Nat)(ae:aH)(ph:Ph)(aY:List iQ)(rows:List Row)(w:World):Prop where
 nJ:∀b∈aY,vA B ae ph b w
 bb:∀b∈aY,∀b'∈aY,b.id≠b'.id->ph.r b.id≠ph.r b'.id
 row:∀r∈rows,r.g.af ae=true->gH B ae ph r w
 br:∀b∈aY,∀r∈rows,r.g.af ae=true->r.b9 ae ph≠some (ph.r b.id)
 rr:∀r∈rows,∀r'∈rows,r.id≠r'.id->r.own=true->r.g.af ae=true->r'.g.af ae=true->∀k,r.b9 ae ph=some k->r'.b9 ae ph≠some k
def gg(ae:aH)(ph:Ph)(ts:List (Option aV))(tmps:Array Value):Prop:=
 ts.length=tmps.size/\∀(t:Nat) (s:aV),ts[t]?=some (some s)->tmps[t]?=some (s.af ae ph)
structure A2(st:St):Prop where
 tmps:∀(t:Nat) (s:aV),st.tmps[t]?=some (some s)->s.all st.has=true
 aY:∀b∈st.aY,b.all st.has=true
 rows:∀r∈st.rows,r.all st.has=true
def sF(z:Nat->Prop)(w:World)(nk:NK)(h:Int)(xs:List Int)(v:Value):Prop:=
 match nk with
 |.c k=>v=k.val h
 |.s _ k=>h=(xs.length:Int)/\Reads w v xs.length (aF [k] (xs.map fun x=>[x]))/\(xs≠[]->∀b,v.ownBlock=some b->z b)
def s9(z:Nat->Prop)(w:World)(aO:List NK)(v:Value)(xs:List (List Int)):Prop:=
 ∃base cap,v = .slice base xs.length cap/\xs.length<=maxLen/\(base=none->xs.length=0/\cap=0)/\
   ∀i r,xs[i]?=some r->∃a,base=some a/\z a.block/\∀j nk,aO[j]?=some nk->∃u,w.cell? (a.add (i*aO.length+j))=some u/\sF z w nk (r.getD j 0) (ij aO r j) u
def EU(z:Nat->Prop)(w:World)(B:Nat)(e:TypeId)(aO:List NK)(v:Value)(xs:List (List Int)):Prop:=
 ∃cs:List Value,w.ownsRow B e aO.length v xs.length cs/\∀i r,xs[i]?=some r->∀j nk,aO[j]?=some nk->∃u,cs[i*aO.length+j]?=some u/\sF z w nk (r.getD j 0) (ij aO r j) u
def ac8(ae:aH)(ph:Ph)(n:ej):Prop:=
 ∃base cap,ph.val n.id = .slice base (ae n.lv).list.length cap/\(ae n.lv).list.length<=maxLen/\(base=none->(ae n.lv).list.length=0/\cap=0)
theorem zu{a:Addr}(h:w'.heap[a.block]?=w.heap[a.block]?):w'.cell? a=w.cell? a:=by
 unfold World.cell?;rw[h]
theorem kK(a:Addr)(j:Nat):(a.add j).block=a.block:=by unfold Addr.add;split<;>rfl
theorem Reads.mY{n:Nat}{cells:List Value}(h:Reads w v n cells)(hz:cells≠[]->∀b,v.ownBlock=some b->w'.heap[b]?=w.heap[b]?):Reads w' v n cells:=by
 obtain⟨base,cap,rfl,hn,h0,hc⟩:=h;refine⟨base,cap,rfl,hn,h0,fun j u hj=>?_⟩;obtain⟨a,rfl,ha⟩:=hc j u hj;refine⟨a,rfl,?_⟩;have hb:w'.heap[(a.add j).block]?=w.heap[(a.add j).block]? :=by
   rw[kK];exact hz (by intro e;rw[e]at hj;simp at hj) _ (by simp[Value.ownBlock])
 rw[zu hb];exact ha
theorem sF.mY{nk:NK}{h:Int}{xs:List Int}(hz:∀k,z k->w'.heap[k]?=w.heap[k]?)(KZ:∀k,z k->z' k)(hc:sF z w nk h xs v):sF z' w' nk h xs v:=by
 cases nk with
 |c k=>exact hc
 | s e k=>
   obtain⟨h1,h2,h3⟩:=hc;have ne:aF [k] (xs.map fun x=>[x])≠[]->xs≠[]:=fun cV e=>cV (by subst e;rfl);exact⟨h1,h2.mY fun cV b hb=>hz _ (h3 (ne cV) b hb),fun cV b hb=>KZ _ (h3 cV b hb)⟩
theorem s9.mY{xs:List (List Int)}(hz:∀k,z k->w'.heap[k]?=w.heap[k]?)(KZ:∀k,z k->z' k)(h:s9 z w aO v xs):s9 z' w' aO v xs:=by
 obtain⟨base,cap,hv,hn,h0,hc⟩:=h;refine⟨base,cap,hv,hn,h0,fun i r hi=>?_⟩;obtain⟨a,e,hza,iW⟩:=hc i r hi;refine⟨a,e,KZ _ hza,fun j nk hj=>?_⟩;obtain⟨u,hu,vV⟩:=iW j nk hj;have hb:w'.heap[(a.add (i*aO.length+j)).block]?=w.heap[(a.add (i*aO.length+j)).block]? :=by
   rw[kK];exact hz _ hza
 exact⟨u,by rw[zu hb];exact hu,vV.mY hz KZ⟩
theorem EU.reads{xs:List (List Int)}(h0:0<aO.length)(h:EU z w B e aO v xs)(hz:∀k,z k->z' k)(ho:∀k,v.ownBlock=some k->z' k):s9 z' w aO v xs:=by
 obtain⟨cs,bN,hc⟩:=h;have h':=bN;obtain⟨hl,⟨rfl,hn⟩|⟨g,cap,cur,rfl,hg,hh,hn,Px,hs,ht⟩⟩:=bN;refine⟨none,0,by rw[hn],by rw[hn];exact Nat.zero_le _,fun _=>⟨hn,rfl⟩,fun i r hi=>?_⟩;rw[C1 hn]at hi;simp at hi;refine⟨some ⟨g,0,none⟩,cap,rfl,kI hn Px,fun h=>by simp at h,fun i r hi=>⟨_,rfl,ho g (by simp[Value.ownBlock]),fun j nk hj=>?_⟩⟩;obtain⟨u,hu,vV⟩:=hc i r hi j nk hj;exact⟨u,h'.cells (by simp[Value.ownBlock]) _ _ hu,vV.mY (fun _ _=>rfl) hz⟩
theorem EU.mY{xs:List (List Int)}(h:EU z w B e aO v xs)(hz:∀k,z k->w'.heap[k]?=w.heap[k]?)(KZ:∀k,z k->z' k)(ho:∀k,v.ownBlock=some k->w'.heap[k]?=w.heap[k]?):EU z' w' B e aO v xs:=by
 obtain⟨cs,bN,hc⟩:=h;refine⟨cs,?_,fun i r hi j nk hj=>?_⟩;obtain⟨hl,hr⟩:=bN;refine⟨hl,hr.imp (fun x=>x) ?_⟩;rintro⟨g,cap,cur,hv,hg,hh,A3⟩;exact⟨g,cap,cur,hv,hg,by rw[ho g (by rw[hv];rfl)];exact hh,A3⟩;obtain⟨u,hu,vV⟩:=hc i r hi j nk hj;exact⟨u,hu,vV.mY hz KZ⟩
def fG(B:Nat)(ae:aH)(ph:Ph)(n:ej)(w:World):Prop:=
 if n.own then EU (fun k=>ph.z k/\B<=k) w B n.e n.aO (ph.val n.id) (ae n.lv).list else s9 ph.z w n.aO (ph.val n.id) (ae n.lv).list
structure dy(B:Nat)(ae:aH)(ph:Ph)(st:St)(w:World):Prop where
 lt:∀k,ph.z k->k<w.heap.size
 bz:∀b∈st.aY,¬ ph.z (ph.r b.id)
 rz:∀r∈st.rows,r.own=true->r.g.af ae=true->∀k,r.b9 ae ph=some k->¬ ph.z k
 rd:∀n∈st.a7,n.g.af ae=true->0<n.aO.length/\fG B ae ph n w
 nm:∀n∈st.a7,n.all st.has=true
 oz:∀n∈st.a7,n.own=true->n.g = .c true/\∀k,(ph.val n.id).ownBlock=some k->¬ ph.z k/\(∀b∈st.aY,ph.r b.id≠k)/\(∀r∈st.rows,r.g.af ae=true->r.b9 ae ph≠some k)/\∀n'∈st.a7,n'.own=true->n'.id≠n.id->(ph.val n'.id).ownBlock≠some k
theorem dy.own(h:dy B ae ph st w)(hn:n∈st.a7)(ho:n.own=true):n.g = .c true/\0<n.aO.length/\EU (fun k=>ph.z k/\B<=k) w B n.e n.aO (ph.val n.id) (ae n.lv).list:=by
 have hg:=(h.oz n hn ho).1;obtain⟨h0,h1⟩:=h.rd n hn (by rw[hg];rfl);unfold fG at h1;rw[if_pos ho]at h1;exact⟨hg,h0,h1⟩
theorem dy.pZ(h:dy B ae ph st w)(hn:n∈st.a7)(ho:n.own=true)(hk:(ph.val n.id).ownBlock=some k):B<=k/\k<w.heap.size:=by
 obtain⟨_,_,cs,bN,_⟩:=h.own hn ho;exact bN.lt k hk
theorem dy.reads(h:dy B ae ph st w)(hn:n∈st.a7)(hg:n.g.af ae=true):0<n.aO.length/\s9 (fun k=>k<w.heap.size) w n.aO (ph.val n.id) (ae n.lv).list:=by
 obtain⟨h0,h1⟩:=h.rd n hn hg;refine⟨h0,?_⟩;unfold fG at h1;split at h1;exact h1.reads h0 (fun k hk=>h.lt k hk.1) (fun k hk=>(h.pZ hn (by assumption) hk).2);exact h1.mY (fun _ _=>rfl) h.lt
theorem dy.ac9(h:dy B ae ph st w):∀n∈st.a7,n.g.af ae=true->ac8 ae ph n/\0<n.aO.length:=fun n hn hg=>by
 obtain⟨h0,base,cap,hv,hl,hb,_⟩:=h.reads hn hg;exact⟨⟨base,cap,hv,hl,hb⟩,h0⟩
structure Sat(w0:World)(ae:aH)(ph:Ph)(st:St)(a:Act)(w:World):Prop where
 tmps:gg ae ph st.tmps a.tmps
 mem:kn w0.heap.size ae ph st.aY st.rows w
 below:Below w0.heap.size w0 w
 defers:a.defers=[]
 names:A2 st
 nest:dy w0.heap.size ae ph st w
theorem kn.congr{p:Nat->Bool}(hg:bA p ae ak ph aQ){rows:List Row}
   (hb:∀b∈aY,b.all p=true) (hr:∀r∈rows,r.all p=true) (h:kn B ae ph aY rows w):kn B ak aQ aY rows w:=by
 have eb:∀b∈aY,ph.r b.id=aQ.r b.id/\b.cells.map (ai.af ae ph)=b.cells.map (ai.af ak aQ):=fun b hm=>by
   have:=hb b hm;simp only[iQ.all,ao]at this;exact⟨hg.r _ this.1,kH hg this.2⟩
 have er:∀r∈rows,ph.val r.id=aQ.val r.id/\ae r.lv=ak r.lv/\r.g.af ae=r.g.af ak:=fun r hm=>by
   have:=hr r hm;simp only[Row.all,ao]at this;exact⟨by simp only[Ph.val,hg.v _ this.1],hg.e _ this.2.1,BE.aq hg.e this.2.2⟩
 refine⟨fun b hm=>?_,fun b hm b' lK cV=>?_,fun r hm h1=>?_,fun b hm r lK h1=>?_,fun r hm r' lK cV ho h1 h2=>?_⟩;have:=h.nJ b hm;unfold vA at *;rw[<- (eb b hm).1,<- (eb b hm).2];exact this;rw[<- (eb b hm).1,<- (eb b' lK).1];exact h.bb b hm b' lK cV;obtain⟨e1,e2,e3⟩:=er r hm;have:=h.row r hm (by rw[e3];exact h1);unfold gH at *;rw[<- e1,<- e2];exact this;obtain⟨e1,e2,e3⟩:=er r lK;have:=h.br b hm r lK (by rw[e3];exact h1);unfold Row.b9 at *;rw[<- e1,<- e2,<- (eb b hm).1];exact this;obtain⟨e1,e2,e3⟩:=er r hm;obtain⟨f1,f2,f3⟩:=er r' lK;have hf:r.b9 ak aQ=r.b9 ae ph:=by unfold Row.b9;rw[e1,e2]
 have CR:r'.b9 ak aQ=r'.b9 ae ph:=by unfold Row.b9;rw[f1,f2]
 rw[hf,CR];exact h.rr r hm r' lK cV ho (by rw[e3];exact h1) (by rw[f3];exact h2)
theorem dy.congr(h:dy B ae ph st w)(hg:bA st.has ae ak ph aQ)(hz:aQ.z=ph.z)
   (hb:∀b∈st.aY,b.all st.has=true) (hr:∀r∈st.rows,r.all st.has=true):dy B ak aQ st w:=by
 have en:∀n∈st.a7,aQ.val n.id=ph.val n.id/\ak n.lv=ae n.lv/\n.g.af ak=n.g.af ae:=fun n hn=>by
   have:=h.nm n hn;simp only[ej.all,ao]at this;exact⟨by simp only[Ph.val,hg.v _ this.1],(hg.e _ this.2.1).symm,(BE.aq hg.e this.2.2).symm⟩
 have er:∀r∈st.rows,r.b9 ak aQ=r.b9 ae ph/\r.g.af ak=r.g.af ae:=fun r hm=>by
   have:=hr r hm;simp only[Row.all,ao]at this;refine⟨?_,(BE.aq hg.e this.2.2).symm⟩;unfold Row.b9;rw[hg.e _ this.2.1];simp only[Ph.val,hg.v _ this.1]
 have eb:∀b∈st.aY,aQ.r b.id=ph.r b.id:=fun b hm=>by
   have:=hb b hm;simp only[iQ.all,ao]at this;exact(hg.r _ this.1).symm
 refine⟨fun k hk=>h.lt k (by rw[<- hz];exact hk),fun b hm=>?_,fun r hm ho h1 k hk=>?_,fun n hm h1=>?_,h.nm,fun n hm ho=>?_⟩;rw[hz,eb b hm];exact h.bz b hm;rw[hz];exact h.rz r hm ho (by rw[<- (er r hm).2];exact h1) k (by rw[<- (er r hm).1];exact hk);obtain⟨e1,e2,e3⟩:=en n hm;have:=h.rd n hm (by rw[<- e3];exact h1);unfold fG at *;rw[hz,e1,e2];exact this;obtain⟨e1,e2,e3⟩:=en n hm;obtain⟨h1,h2⟩:=h.oz n hm ho;refine⟨h1,fun k hk=>?_⟩;rw[e1]at hk;obtain⟨g1,g2,g3,g4⟩:=h2 k hk;refine⟨by rw[hz];exact g1,fun b DN=>by rw[eb b DN];exact g2 b DN,fun r VM iG=>?_,fun n' lK p9 cV=>?_⟩;rw[(er r VM).1];exact g3 r VM (by rw[<- (er r VM).2];exact iG);rw[(en n' lK).1];exact g4 n' lK p9 cV
theorem Sat.congr{w0:World}{a:Act}(h:Sat w0 ae ph st a w)(hg:bA st.has ae ak ph aQ)(hz:aQ.z=ph.z:=by rfl):Sat w0 ak aQ st a w:=by
 refine⟨⟨h.tmps.1,fun t s ht=>?_⟩,h.mem.congr hg h.names.aY h.names.rows,h.below,h.defers,h.names,h.nest.congr hg hz h.names.aY h.names.rows⟩;rw[<- aV.aq hg (h.names.tmps t s ht)];exact h.tmps.2 t s ht
theorem kn.EV{rows:List Row}(h:kn B ae ph aY rows w){b:iQ}(hm:b∈aY):ph.r b.id<w.heap.size:=by
 have:=(h.nJ b hm).2;exact(sQ.1 this).1
end
section
open Go.RowKit
theorem rC{k:IntKind}{n:Int}(h:k.min<=n/\n<=k.max):k.wrap n=n:=by
 obtain⟨h1,h2⟩:=h;cases k<;>simp[IntKind.wrap,IntKind.min,IntKind.max,IntKind.signed,IntKind.bits]at * <;>omega
theorem zw(x:Int):(BitVec.ofInt 64 x).toNat=(x%18446744073709551616).toNat:=by
 rw[BitVec.toNat_ofInt];rfl
theorem GZ(k:IntKind)(hk:k = .i64\/k = .u64)(x:Int)(m:Nat)(hm:m<=62) :
   Go.bits .and k x (((2 ^ m:Nat):Int)-1)=x%((2 ^ m:Nat):Int):=by
 have kJ:0<2 ^ m:=Nat.two_pow_pos m;have hle:2 ^ m<=2 ^ 62:=Nat.pow_le_pow_right (by decide) hm;have e1:(BitVec.ofInt 64 (((2 ^ m:Nat):Int)-1)).toNat=2 ^ m-1:=by
   rw[zw];generalize 2 ^ m=q at *;have:((q:Int)-1)%18446744073709551616=(q:Int)-1:=Int.emod_eq_of_lt (by omega) (by simp at hle;omega);rw[this];omega
 have e2:(BitVec.ofInt 64 x &&& BitVec.ofInt 64 (((2 ^ m:Nat):Int)-1)).toNat=(x%18446744073709551616).toNat%2 ^ m:=by
   rw[BitVec.toNat_and,e1,Nat.and_two_pow_sub_one_eq_mod,zw]
 have e3:(((x%18446744073709551616).toNat%2 ^ m:Nat):Int)=x%((2 ^ m:Nat):Int):=by
   have h0:0<=x%18446744073709551616:=Aj _ (by decide);rw[Int.natCast_emod,Int.toNat_of_nonneg h0];apply Int.emod_emod_of_dvd;have:(18446744073709551616:Int)=((2 ^ 64:Nat):Int):=by decide
   rw[this];exact Int.natCast_dvd_natCast.2 (Nat.pow_dvd_pow 2 (by omega))
 have cu:(x%18446744073709551616).toNat%2 ^ m<2 ^ m:=Nat.mod_lt _ kJ;have hw:∀n:Nat,n<2 ^ 62->k.wrap (n:Int)=n:=by
   intro n hn;apply rC;rcases hk with rfl|rfl<;>simp[IntKind.min,IntKind.max,IntKind.signed,IntKind.bits]at * <;>omega
 rcases hk with rfl|rfl;show IntKind.i64.wrap ((BitVec.ofInt 64 x &&& BitVec.ofInt 64 (((2 ^ m:Nat):Int)-1)).toNat:Int)=_;rw[e2,hw _ (by omega),e3];show IntKind.u64.wrap ((BitVec.ofInt 64 x &&& BitVec.ofInt 64 (((2 ^ m:Nat):Int)-1)).toNat:Int)=_;rw[e2,hw _ (by omega),e3]
theorem zx:∀ {f:Nat} {n:Int} {m:Nat},A4 f n=some m->m<f/\n=((2 ^ m:Nat):Int)-1:=by
 intro f;induction f with
 |zero=>intro n m h;simp[A4]at h
 | succ f ih=>
   intro n m h;unfold A4 at h;split at h;rename_i he;simp only[ah]at h;subst h;exact⟨by omega,by omega⟩;obtain⟨h1,h2⟩:=ih h;exact⟨by omega,h2⟩
section
variable {ae:aH}{ph:Ph}
theorem ko{wr:Bool}{k:IntKind}{e:IE}(hn:∀n∈(arith wr k e).1,n.af ae=true):(arith wr k e).2.af ae ph = .int k (k.wrap (e.af ae)):=by
 rw[<- IE.cz ae e];unfold arith at hn ⊢;generalize e.mk=e' at *;unfold Py at hn ⊢;split at hn;rfl;cases wr;exact(congrArg (Value.int k) (rC (VJ (hn _ (kL.2 rfl)))).symm);rfl
end
end
section
open Go.RowKit
variable {ae:aH}{ph:Ph}{P:Program}{w:World}
theorem K2(k yk:IntKind)(x y:Int)(t:TypeId)(h0:0<=y)(h1:y<=k.bits):(binOp .shl t (.int k x) (.int yk y)).run P w = .ok (.int k (k.wrap (x*2 ^ y.toNat))) w:=by
 rw[binOp_shl,shift_shl k yk x y h0 h1];rfl
theorem K3(k yk:IntKind)(x y:Int)(t:TypeId)(h0:0<=y)(h1:y<=k.bits):(binOp .shr t (.int k x) (.int yk y)).run P w = .ok (.int k (x/2 ^ y.toNat)) w:=by
 rw[binOp_shr,shift_shr k yk x y h0 h1];rfl
theorem VN(k:IntKind)(x y:Int)(t:TypeId)(h:y≠0):(binOp .quo t (.int k x) (.int k y)).run P w = .ok (.int k (k.wrap (x.tdiv y))) w:=by
 rw[binOp_quo];simp[Op.intDiv,h]
theorem VO(k:IntKind)(x y:Int)(t:TypeId)(h:y≠0):(binOp .rem t (.int k x) (.int k y)).run P w = .ok (.int k (x.tmod y)) w:=by
 rw[binOp_rem];simp[Op.intDiv,h]
theorem K4{e:IE}(h:((BE.sP e).mk).af ae=true):e.af ae≠0:=by
 rw[BE.cz]at h;simpa[BE.af]using h
theorem cf{a b:IE}(h:((BE.le a b).mk).af ae=true):a.af ae<=b.af ae:=by
 rw[BE.cz]at h;simpa[BE.af]using h
theorem fu{a b:IE}(h:((BE.lt a b).mk).af ae=true):a.af ae<b.af ae:=by
 rw[BE.cz]at h;simpa[BE.af]using h
theorem A5{wr:Bool}{op:BinOp}{l1 l2 l:ai}{ns:List BE}(t:TypeId)(x y:Operand)(h:Pz wr op l1 l2=some (ns,l))(hn:∀n∈ns,n.af ae=true) :
   (do eqGuard op t x y (l1.af ae ph) (l2.af ae ph);binOp op t (l1.af ae ph) (l2.af ae ph):Sem Value).run P w = .ok (l.af ae ph) w:=by
 have go:∀(k:IntKind) (a:IE) (v:Value),(binOp op t (.int k (a.af ae)) (l2.af ae ph)).run P w = .ok v w->l1 = .i k a->v=l.af ae ph->
     (do eqGuard op t x y (l1.af ae ph) (l2.af ae ph);binOp op t (l1.af ae ph) (l2.af ae ph):Sem Value).run P w = .ok (l.af ae ph) w:=by
   intro k a v hr hl hv;subst hl;rw[<- hv,<- hr];show Sem.run P (do eqGuard op t x y (.int k (a.af ae)) (l2.af ae ph);binOp op t (.int k (a.af ae)) (l2.af ae ph)) w=_;rw[eqGuard_at_int];rfl
 unfold Pz at h;split at h;rename_i k a _ n;split at h;rename_i hc;obtain⟨h0,h1,h2⟩:=hc;simp only[ah]at h;have h':arith wr k (.mul a (.c ((2 ^ n.toNat:Nat):Int)))=(ns,l):=h;have:=ko (ae:=ae) (ph:=ph) (wr:=wr) (k:=k) (e:=.mul a (.c ((2 ^ n.toNat:Nat):Int))) (by rw[h'];exact hn);rw[h']at this;refine go k a _ (K2 k _ _ n t h0 h2) rfl ?_;rw[this];simp[IE.af];cases h;rename_i k a _ b _;simp only[ah,aA]at h;obtain⟨rfl,rfl⟩:=h;have h0:=cf (hn _ (aU ..));have h1:=cf (hn _ (bn _ (aU ..)));have:=ko (ae:=ae) (ph:=ph) (wr:=wr) (k:=k) (e:=.shl a b) (fun n hm=>hn n (bn _ (bn _ hm)));exact go k a _ (K2 k _ _ _ t h0 h1) rfl this.symm;rename_i k a _ n;split at h;rename_i hc;obtain⟨h0,h1,h2⟩:=hc;simp only[ah,aA]at h;obtain⟨rfl,rfl⟩:=h;refine go k a _ (K3 k _ _ n t h0 h2) rfl ?_;simp only[ai.af,IE.cz];simp[IE.af];cases h;rename_i k a _ b _;simp only[ah,aA]at h;obtain⟨rfl,rfl⟩:=h;have h0:=cf (hn _ (aU ..));have h1:=cf (hn _ (bn _ (aU ..)));refine go k a _ (K3 k _ _ _ t h0 h1) rfl ?_;simp only[ai.af,IE.cz];simp[IE.af];rename_i k a k' b;split at h;rename_i hk;subst hk;simp only[ah]at h;have h':arith wr k (.add a b)=(ns,l):=h;have:=ko (ae:=ae) (ph:=ph) (wr:=wr) (k:=k) (e:=.add a b) (by rw[h'];exact hn);rw[h']at this;exact go k a _ (by simp[ai.af,binOp_add,Op.intArith];rfl) rfl this.symm;cases h;rename_i k a k' b;split at h;rename_i hk;subst hk;simp only[ah]at h;have h':arith wr k (.sub a b)=(ns,l):=h;have:=ko (ae:=ae) (ph:=ph) (wr:=wr) (k:=k) (e:=.sub a b) (by rw[h'];exact hn);rw[h']at this;exact go k a _ (by simp[ai.af,binOp_sub,Op.intArith];rfl) rfl this.symm;cases h;rename_i k a k' b;split at h;rename_i hk;subst hk;simp only[ah]at h;have h':arith wr k (.mul a b)=(ns,l):=h;have:=ko (ae:=ae) (ph:=ph) (wr:=wr) (k:=k) (e:=.mul a b) (by rw[h'];exact hn);rw[h']at this;exact go k a _ (by simp[ai.af,binOp_mul,Op.intArith];rfl) rfl this.symm;cases h;rename_i k a k' b;split at h;rename_i hk;subst hk;simp only[ah,aA]at h;obtain⟨rfl,rfl⟩:=h;have h0:=K4 (hn _ (aU ..));have:=ko (ae:=ae) (ph:=ph) (wr:=wr) (k:=k) (e:=.tdiv a b) (fun n hm=>hn n (bn _ hm));exact go k a _ (VN k _ _ t h0) rfl this.symm;cases h;rename_i k a k' b;split at h;rename_i hk;subst hk;simp only[ah,aA]at h;obtain⟨rfl,rfl⟩:=h;have h0:=K4 (hn _ (aU ..));refine go k a _ (VO k _ _ t h0) rfl ?_;simp only[ai.af,IE.cz];simp[IE.af];cases h;rename_i k a k' n;split at h;rename_i hk;subst hk;have hand:∀(k:IntKind) (a b:Int),(binOp .and t (.int k a) (.int k b)).run P w = .ok (.int k (Go.bits .and k a b)) w:=fun k a b=>by rw[binOp_and,intBits_and];rfl
 split at h;rename_i m hm;simp only[ah,aA]at h;obtain⟨rfl,rfl⟩:=h;obtain⟨xj,IZ⟩:=zx hm;refine go _ a _ (hand _ _ _) rfl ?_;rw[IZ];simp only[IE.af];rw[GZ _ (.inl rfl) _ m (by omega)];simp only[ai.af,IE.cz];simp[IE.af];rename_i m hm;simp only[ah,aA]at h;obtain⟨rfl,rfl⟩:=h;obtain⟨xj,IZ⟩:=zx hm;refine go _ a _ (hand _ _ _) rfl ?_;rw[IZ];simp only[IE.af];rw[GZ _ (.inr rfl) _ m (by omega)];simp only[ai.af,IE.cz];simp[IE.af];simp only[ah,aA]at h;obtain⟨rfl,rfl⟩:=h;refine go _ a _ (hand _ _ _) rfl ?_;simp only[ai.af,IE.cz];simp[IE.af];cases h;rename_i k a k' b _;split at h;rename_i hk;subst hk;simp only[ah,aA]at h;obtain⟨rfl,rfl⟩:=h;refine go k a (.int k (Go.bits .and k (a.af ae) (b.af ae))) (by simp only[ai.af,binOp_and,intBits_and];rfl) rfl ?_;simp only[ai.af,IE.cz];rfl;cases h;rename_i k a k' b;split at h;rename_i hk;subst hk;simp only[ah,aA]at h;obtain⟨rfl,rfl⟩:=h;refine go k a (.int k (Go.bits .or k (a.af ae) (b.af ae))) (by simp only[ai.af,binOp_or,intBits_or];rfl) rfl ?_;simp only[ai.af,IE.cz];rfl;cases h;rename_i k a k' b;split at h;rename_i hk;subst hk;simp only[ah,aA]at h;obtain⟨rfl,rfl⟩:=h;refine go k a (.int k (Go.bits .xor k (a.af ae) (b.af ae))) (by simp only[ai.af,binOp_xor,intBits_xor];rfl) rfl ?_;simp only[ai.af,IE.cz];rfl;cases h;rename_i k a k' b;split at h;rename_i hk;subst hk;simp only[ah,aA]at h;obtain⟨rfl,rfl⟩:=h;refine go k a (.int k (Go.bits .andNot k (a.af ae) (b.af ae))) (by simp only[ai.af,binOp_andNot,intBits_andNot];rfl) rfl ?_;simp only[ai.af,IE.cz];rfl;cases h
 all_goals first
   |cases h;done
   | (rename_i k a k' b
      split at h
      . rename_i hk;subst hk;simp only[ah,aA]at h;obtain⟨rfl,rfl⟩:=h;refine go k a (.bool _) (by simp only[ai.af,binOp_lss,binOp_leq,binOp_gtr,binOp_geq,binOp_eql,binOp_neq];rfl) rfl ?_;simp only[ai.af,BE.cz,BE.af]
        try first|rfl|(rw[Bool.eq_iff_iff];simp;done)|(simp[bne];rw[Bool.eq_iff_iff];simp;done)
      cases h)
end
section
open Go.RowKit
variable {ae:aH}{ph:Ph}{P:Program}{w:World}
variable{t:TypeId}{ks:List CK}{n:Nat}
def veq:Value->Value->Bool
 |.int _ a,.int _ b=>decide (a=b)
 |.bool a,.bool b=>a==b
 |_,_=>false
def nP:List Value->List Value->Bool
 | [],[]=>true
 |x::xs,y::ys=>veq x y&&nP xs ys
 |_,_=>false
def I':CK->Value->Bool
 |.i k,.int k' _=>decide (k=k')
 |.b,.bool _=>true
 |.f,.float .f64 _=>true
 |_,_=>false
def jM:List CK->List Value->Bool
 | [],[]=>true
 |k::ks,x::xs=>I' k x&&jM ks xs
 |_,_=>false
theorem gl:∀ {ks:List CK} {xs:List Value},jM ks xs=true->xs.length=ks.length:=by
 intro ks;induction ks with
 | nil=>intro xs h;cases xs with
   |nil=>rfl
   |cons x xs=>simp[jM]at h
 | cons k ks ih=>intro xs h;cases xs with
   |nil=>simp[jM]at h
   |cons x xs=>simp only[jM,ao]at h;simp[ih h.2]
theorem mZ:∀ {ks ks':List CK} {xs:List Value},jM (ks++ks') xs=true->jM ks (xs.take ks.length)=true/\jM ks' (xs.drop ks.length)=true:=by
 intro ks;induction ks with
 |nil=>intro ks' xs h;exact⟨rfl,by simpa using h⟩
 | cons k ks ih=>intro ks' xs h;cases xs with
   |nil=>simp[jM]at h
   | cons x xs=>
     simp only[ta,jM,ao]at h;obtain⟨h1,h2⟩:=ih h.2;exact⟨by simp[jM,h.1,h1],by simpa using h2⟩
theorem zy:∀ {xs ys mR ys':List Value},xs.length=ys.length->nP (xs++mR) (ys++ys')=(nP xs ys&&nP mR ys'):=by
 intro xs;induction xs with
 | nil=>intro ys mR ys' h;cases ys with
   |nil=>simp[nP]
   |cons y ys=>simp at h
 | cons x xs ih=>intro ys mR ys' h;cases ys with
   |nil=>simp at h
   |cons y ys=>simp only[ta,nP,ih (by simpa using h),Bool.and_assoc]
def pv(P:Program)(t:TypeId)(cs:List Value):Value:=if gO P t then .agg cs.toArray else cs.headD undef
theorem cm(h:0<P.cellsOf t):(sizeOf t).run P w = .ok (P.cellsOf t) w:=by
 unfold Program.cellsOf at *;cases hi:P.info? t with
 |none=>simp[hi]at h
 |some i=>simp[sizeOf,typeInfo,hi]
theorem uL(h:(P.underlying t).isSome=true):(isAgg t).run P w = .ok (gO P t) w:=by
 obtain⟨d,hd⟩:=A6.1 h;simp only[isAgg,gO,eU,run_underlying hd,eP,hd];cases d<;>rfl
theorem uM(h:(P.underlying t).isSome=true)(hs:0<P.cellsOf t){cs:Array Value}{off:Nat}(hl:off+P.cellsOf t<=cs.size)(h1:gO P t=false->P.cellsOf t=1) :
   (part t cs off).run P w = .ok (pv P t ((cs.toList.drop off).take (P.cellsOf t))) w:=by
 simp only[part,eU,uL h,eP,pv];cases hb:gO P t with
 | true=>
   simp only[if_true,eU,cm hs,eP,fX];congr 2;apply kM;simp[Array.toList_extract,List.extract_eq_take_drop]
 | false=>
   have K5:=h1 hb;rw[K5]at hl ⊢;have:cs[off]?=some cs[off]:=by simp[Array.getElem?_eq_getElem (show off<cs.size by omega)]
   simp only[jG,if_false,this,fX];congr 1;rw[List.drop_eq_getElem_cons (by simp;omega)];simp
theorem DO(h:flat P n t=some ks):(P.underlying t).isSome=true:=by
 cases n with
 |zero=>simp[flat]at h
 | succ n=>
   unfold flat at h;cases hu:P.underlying t with
   |none=>simp[hu]at h
   |some d=>rfl
theorem xk(h:flat P n t=some ks)(ha:gO P t=false):ks.length=1:=by
 cases n with
 |zero=>simp[flat]at h
 | succ n=>
   unfold flat at h;unfold gO at ha;split at h<;>simp_all;rw[<- h];rfl;rw[<- h];rfl
theorem yz:∀(n:Nat) (t:TypeId) (ks:List CK),flat P n t=some ks->ZH.yA P n t=false->∀(d:Nat),n<=d->∀xs ys:List Value,
   jM ks xs=true->jM ks ys=true->∀w,(Op.equalIn d t (pv P t xs) (pv P t ys)).run P w = .ok (nP xs ys) w:=by
 intro n;induction n with
 |zero=>intro t ks h;simp[flat]at h
 | succ n ih=>
   intro t ks h hh d hd xs ys hx hy w;obtain⟨d,rfl⟩:∃d',d=d'+1:=⟨d-1,by omega⟩;unfold flat at h;unfold ZH.yA at hh;split at h;rename_i k hu;simp only[ah]at h;subst h;have hlx:=gl hx;have hly:=gl hy
   match xs,ys,hlx,hly with
   | [x],[y],_,_=>
     simp only[jM,Bool.and_true]at hx hy;cases x<;>simp[I']at hx;cases y<;>simp[I']at hy;simp only[pv,gO,hu,jG,if_false,List.headD_cons];subst hx;subst hy;rw[run_equalIn_int w d t _ _ _ _ hu];simp[nP,veq];rw[Bool.eq_iff_iff];simp
   rename_i hu;simp only[ah]at h;subst h;have hlx:=gl hx;have hly:=gl hy
   match xs,ys,hlx,hly with
   | [x],[y],_,_=>
     simp only[jM,Bool.and_true]at hx hy;cases x<;>simp[I']at hx;cases y<;>simp[I']at hy;simp only[pv,gO,hu,jG,if_false,List.headD_cons];rw[run_equalIn_bool w d t _ _ hu];simp[nP,veq]
   rename_i fs hu;simp only[hu,G0]at hh;obtain⟨fc,VP⟩:=hh;simp only[pv,gO,hu,if_true];have hf:P.fieldsOf t=fs:=by simp[Program.fieldsOf,hu]
   rw[run_equalIn_struct w d t _ _ (by rw[hf];exact hu) fc,hf];have key:∀(l:List Field) (off:Nat) (ks:List CK),A7 P (flat P n) off l=some ks->(l.any fun f=>f.name == "_" ||ZH.yA P n f.type)=false->
       ∀xs ys:List Value,xs.length=off+ks.length->ys.length=off+ks.length->jM ks (xs.drop off)=true->jM ks (ys.drop off)=true->
       ∀w,(Op.eqFields d xs.toArray ys.toArray l).run P w = .ok (nP (xs.drop off) (ys.drop off)) w:=by
     intro l;induction l with
     | nil=>
       intro off ks h _ xs ys hx hy _ _ w;simp only[A7,ah]at h;subst h;simp at hx hy;simp[Op.eqFields,List.drop_eq_nil_of_le,hx,hy,nP]
     | cons f l ihl=>
       intro off ks h VP xs ys qz hyl hx hy w;simp only[A7]at h;split at h;rename_i Ja;split at h;rename_i m hm;split at h;rename_i hc;split at h;rename_i r hr;simp only[ah]at h;subst h;simp only[List.any_cons,G0]at VP;obtain⟨⟨ac',PA⟩,A3⟩:=VP;have cV:f.name≠ "_" :=by simpa using ac'
       obtain⟨ZI,ZJ⟩:=mZ hx;obtain⟨hy1,hy2⟩:=mZ hy;simp only[ff]at qz hyl;have O':=DO hm;have px:=uM (P:=P) (w:=w) O' (by omega) (cs:=xs.toArray) (off:=f.offset) (by simp;omega) (fun ha=>by rw[hc.1];exact xk hm ha);have py:=uM (P:=P) (w:=w) O' (by omega) (cs:=ys.toArray) (off:=f.offset) (by simp;omega) (fun ha=>by rw[hc.1];exact xk hm ha);simp only[EW,hc.1,Ja]at px py;simp only[Op.eqFields,cV,ne_eq,not_false_eq_true,if_true,eU,Ja,px,py,eP];rw[ih f.type m hm PA d (by omega) _ _ ZI hy1 w];simp only[eP];have e:nP (xs.drop off) (ys.drop off)=(nP ((xs.drop off).take m.length) ((ys.drop off).take m.length)&&nP ((xs.drop off).drop m.length) ((ys.drop off).drop m.length)):=by
         rw[<- zy (by simp;omega),C2,C2]
       rw[e];cases nP ((xs.drop off).take m.length) ((ys.drop off).take m.length);simp;have:=ihl (off+m.length) r hr A3 xs ys (by omega) (by omega) (by simpa using ZJ) (by simpa using hy2) w;simp only[Bool.not_true,jG,if_false,Bool.true_and,List.drop_drop];exact this;cases h;cases h;cases h;cases h
   have hlx:=gl hx;have hly:=gl hy;exact key fs.toList 0 ks h VP xs ys (by omega) (by omega) (by simpa using hx) (by simpa using hy) w;rename_i len e hu;split at h;rename_i m hm;split at h;rename_i hc;simp only[ah]at h;subst h;simp only[hu]at hh;simp only[pv,gO,hu,if_true];have hi:∃i,P.info? e=some i:=by
     have:=hc.2;rw[<- hc.1]at this;unfold Program.cellsOf at this;cases hi:P.info? e with
     |none=>simp[hi]at this
     |some i=>exact⟨i,rfl⟩
   obtain⟨i,hi⟩:=hi;rw[run_equalIn_array w d _ _ hu hi];have O':=DO hm;have key:∀(c:Nat) (s:Nat) (xs ys:List Value),xs.length=(s+c)*m.length->ys.length=(s+c)*m.length->
       jM (List.replicate c m).flatten (xs.drop (s*m.length))=true->jM (List.replicate c m).flatten (ys.drop (s*m.length))=true->
       ∀w,(Op.eqItems d e (P.cellsOf e) xs.toArray ys.toArray (List.range' s c)).run P w = .ok (nP (xs.drop (s*m.length)) (ys.drop (s*m.length))) w:=by
     intro c;induction c with
     | zero=>
       intro s xs ys hx hy _ _ w;rw[iM]at hx hy;have e1:xs.drop (s*m.length)=[]:=List.drop_eq_nil_of_le (by omega);have e2:ys.drop (s*m.length)=[]:=List.drop_eq_nil_of_le (by omega);simp[Op.eqItems,e1,e2,nP]
     | succ c ihc=>
       intro s xs ys qz hyl hx hy w;simp only[List.replicate_succ,List.flatten_cons]at hx hy;obtain⟨ZI,ZJ⟩:=mZ hx;obtain⟨hy1,hy2⟩:=mZ hy;have G1:(s+(c+1))*m.length=s*m.length+m.length+c*m.length:=by rw[lR,lR,Nat.one_mul];omega
       have px:=uM (P:=P) (w:=w) O' (by omega) (cs:=xs.toArray) (off:=s*m.length) (by simp;omega) (fun ha=>by rw[hc.1];exact xk hm ha);have py:=uM (P:=P) (w:=w) O' (by omega) (cs:=ys.toArray) (off:=s*m.length) (by simp;omega) (fun ha=>by rw[hc.1];exact xk hm ha);simp only[EW,hc.1]at px py;simp only[List.range'_succ,Op.eqItems,eU,hc.1,px,py,eP];rw[ih e m hm hh d (by omega) _ _ ZI hy1 w];simp only[eP];have e:nP (xs.drop (s*m.length)) (ys.drop (s*m.length))=(nP ((xs.drop (s*m.length)).take m.length) ((ys.drop (s*m.length)).take m.length)&&nP ((xs.drop (s*m.length)).drop m.length) ((ys.drop (s*m.length)).drop m.length)):=by
         rw[<- zy (by simp;omega),C2,C2]
       rw[e];have e3:(s+1)*m.length=s*m.length+m.length:=by rw[lR,Nat.one_mul]
       have Jb:(s+1+c)*m.length=(s+(c+1))*m.length:=by congr 1;omega
       cases nP ((xs.drop (s*m.length)).take m.length) ((ys.drop (s*m.length)).take m.length);simp;have:=ihc (s+1) xs ys (by omega) (by omega) (by rw[e3];simpa using ZJ) (by rw[e3];simpa using hy2) w;simp only[Bool.not_true,jG,if_false,Bool.true_and,List.drop_drop];rw[hc.1,e3]at this;exact this
   have hlx:=gl hx;have hly:=gl hy;have hfl:(List.replicate len m).flatten.length=len*m.length:=by simp
   rw[List.range_eq_range'];have:=key len 0 xs ys (by rw[gK];omega) (by rw[gK];omega) (by simpa using hx) (by simpa using hy) w;simpa using this;cases h;cases h;cases h
theorem MV{k:CK}{l:ai}(h:fits k l=true):I' k (l.af ae ph)=true:=by
 cases k<;>cases l<;>simp[fits]at h<;>simp[I',ai.af,h]
theorem vB:∀ {ks:List CK} {ls:List ai},rD ks ls=true->jM ks (ls.map (ai.af ae ph))=true:=by
 intro ks;induction ks with
 | nil=>intro ls h;cases ls with
   |nil=>rfl
   |cons l ls=>simp[rD]at h
 | cons k ks ih=>intro ls h;cases ls with
   |nil=>simp[rD]at h
   |cons l ls=>simp only[rD,ao]at h;simp[jM,MV h.1,ih h.2]
theorem Jc{x y:ai}{p:BE}(h:Jd x y=some p):p.af ae=veq (x.af ae ph) (y.af ae ph):=by
 unfold Jd at h;split at h;split at h;simp only[ah]at h;subst h;simp[BE.cz,BE.af,veq,ai.af];cases h;simp only[ah]at h;subst h;simp[BE.cz,BE.af,veq,ai.af];cases h
theorem G2:∀ {xs ys:List ai} {p:BE},rF xs ys=some p->p.af ae=nP (xs.map (ai.af ae ph)) (ys.map (ai.af ae ph)):=by
 intro xs;induction xs with
 | nil=>intro ys p h;cases ys with
   |nil=>simp only[rF,ah]at h;subst h;rfl
   |cons y ys=>simp[rF]at h
 | cons x xs ih=>intro ys p h;cases ys with
   |nil=>simp[rF]at h
   | cons y ys=>
     simp only[rF]at h;split at h;rename_i p1 p2 h1 h2;simp only[ah]at h;subst h;simp[BE.cz,BE.af,nP,Jc (ph:=ph) h1,ih h2];cases h
theorem K6{x y:V1}{p:BE}(h:ZH P t x y=some p)(X Y:Operand) :
   (do eqGuard .eql t X Y (x.af ae ph) (y.af ae ph);binOp .eql t (x.af ae ph) (y.af ae ph):Sem Value).run P w = .ok (.bool (p.af ae)) w/\
   (do eqGuard .neq t X Y (x.af ae ph) (y.af ae ph);binOp .neq t (x.af ae ph) (y.af ae ph):Sem Value).run P w = .ok (.bool (!(p.af ae))) w:=by
 unfold ZH at h;split at h;rename_i a b;split at h;rename_i hu;simp only[ah]at h;subst h;constructor;show Sem.run P (do eqGuard .eql t X Y (.bool _) (.bool _);binOp .eql t (.bool _) (.bool _)) w=_;rw[eqGuard_at_bool];simp only[eU,fX,eP];rw[run_eql_bool w t _ _ hu];simp[BE.cz,BE.af];show Sem.run P (do eqGuard .neq t X Y (.bool _) (.bool _);binOp .neq t (.bool _) (.bool _)) w=_;rw[eqGuard_at_bool];simp only[eU,fX,eP];rw[run_neq_bool w t _ _ hu];simp[BE.cz,BE.af];cases h;rename_i xs ys;split at h;rename_i ks hk;split at h;rename_i hc;simp only[ao,nQ]at hc;obtain⟨⟨⟨⟨hx,hy⟩,EX⟩,hg⟩,PA⟩:=hc;have he:=yz (P:=P) 16 t ks hk PA 10000 (by omega) _ _ (vB (ae:=ae) (ph:=ph) hx) (vB (ae:=ae) (ph:=ph) hy) w;simp only[pv,EX,if_true]at he;have hd:=G2 (ae:=ae) (ph:=ph) h;constructor;simp only[V1.af,eU,run_eqGuard_agg w _ t X Y _ _ hg,eP,run_eql_struct,he,hd];simp only[V1.af,eU,run_eqGuard_agg w _ t X Y _ _ hg,eP,run_neq_struct,he,hd];cases h;cases h;cases h
end
section
open Go.RowKit
variable {ae:aH}{ph:Ph}{P:Program}
variable{st:St}{v:V1}{x:IE}{G:BE}{t:TypeId}{w:World}{id:Nat}{l:ai}{n B:Nat}{cs:List ai}{lv sz:Nat}
theorem iz(a:Addr)(i j:Nat):(a.add i).add j=a.add (i+j):=by
 unfold Addr.add;by_cases hi:i=0;subst hi;simp;by_cases hj:j=0;subst hj;simp[hi];simp[hi,hj,Nat.add_assoc]
theorem jH(b o j:Nat):(⟨b,o,none⟩:Addr).add j=⟨b,o+j,none⟩:=Addr.add_lit b o j
theorem G3{v:Value}{x:V1}(h:ofConst v=some x):x.af ae ph=v:=by
 unfold ofConst at h;split at h<;>simp only[ah,reduceCtorEq]at h<;>subst h<;>rfl
theorem tc{x:Operand}{sv:SV}{a:Act}(h:MW st G x=some sv)(hG:G.af ae=true)(ht:gg ae ph st.tmps a.tmps) :
   a.eval x=sv.af ae ph:=by
 unfold MW at h;split at h;rename_i t;split at h;rename_i s hs;split at h;rename_i hg;simp only[ah]at h;subst h;have:=ht.2 t s hs;simp only[Act.eval,Array.getD_eq_getD_getElem?,this,Option.getD_some,aV.af,BE.cW hg hG,if_true];cases h;cases h;rename_i v;simp only[bH]at h;obtain⟨y,hy,rfl⟩:=h;exact(G3 hy).symm;simp only[ah]at h;subst h;rfl;cases h
theorem cR{x:Operand}{a:Act}(h:lL st G x=some v)(hG:G.af ae=true)(ht:gg ae ph st.tmps a.tmps) :
   a.eval x=v.af ae ph:=by
 unfold lL at h;split at h;rename_i y hy;simp only[ah]at h;subst h;exact tc hy hG ht;cases h
theorem aC{x:Operand}{a:Act}(h:bB st G x=some l)(hG:G.af ae=true)(ht:gg ae ph st.tmps a.tmps) :
   a.eval x=l.af ae ph:=by
 unfold bB at h;split at h;rename_i y hy;simp only[ah]at h;subst h;exact tc hy hG ht;cases h
theorem eK{b:iQ}(h:gB st id=some b):b∈st.aY/\b.id=id:=by
 unfold gB at h;exact⟨A8 h,by simpa using List.find?_some h⟩
theorem aZ{r:Row}(h:bJ st id=some r):r∈st.rows/\r.id=id:=by
 unfold bJ at h;exact⟨A8 h,by simpa using List.find?_some h⟩
theorem dp{r:ej}(h:fh st id=some r):r∈st.a7/\r.id=id:=by
 unfold fh at h;exact⟨A8 h,by simpa using List.find?_some h⟩
def Looks(P:Program)(t:TypeId)(v:V1):Prop:=
 (P.underlying t).isSome=true/\0<P.cellsOf t/\((gO P t=true/\∃ls,v = .agg ls/\ls.length=P.cellsOf t)\/(gO P t=false/\∃l,v = .one l))
theorem zA{ls:List ai}{off:Nat}{r:List ai}(h:Je ls off n=some r):r.length=n/\r=(ls.drop off).take n/\off+n<=ls.length:=by
 unfold Je at h;split at h;simp only[ah]at h;subst h;exact⟨by simp;omega,rfl,by assumption⟩;cases h
theorem nS{off:Nat}(h:td P t cs off=some v) :
   Looks P t v/\∀j l,v.leaves[j]?=some l->cs[off+j]?=some l:=by
 unfold td at h;split at h;rename_i hc;simp only[ao,aM]at hc;split at h;rename_i ha;simp only[bH]at h;obtain⟨ls,AJ,rfl⟩:=h;obtain⟨h1,h2,h3⟩:=zA AJ;refine⟨⟨hc.1,hc.2,.inl ⟨ha,ls,rfl,h1⟩⟩,fun j l hj=>?_⟩;simp only[V1.leaves]at hj;rw[h2,A9]at hj;split at hj;rw[List.getElem?_drop]at hj;exact hj;cases hj;rename_i ha;simp only[bH]at h;obtain⟨l,hl,rfl⟩:=h;refine⟨⟨hc.1,hc.2,.inr ⟨by simpa using ha,l,rfl⟩⟩,fun j l' hj=>?_⟩;simp only[V1.leaves]at hj;cases j with
 |zero=>simp at hj;subst hj;simpa using hl
 |succ j=>simp at hj
 cases h
theorem iX{a:Addr}(hv:Looks P t v)(hc:∀j l,v.leaves[j]?=some l->w.cell? (a.add j)=some (l.af ae ph)) :
   (loadVar t a).run P w = .ok (v.af ae ph) w:=by
 obtain⟨hu,hs,⟨ha,ls,rfl,hl⟩|⟨ha,l,rfl⟩⟩:=hv;simp only[loadVar,eU,uL hu,eP,ha,if_true,cm hs];have:=run_loadCells_list (P:=P) w a (ls.map (ai.af ae ph)) (fun j u hj=>by
   rw[gL]at hj;simp only[bH]at hj;obtain⟨l,hl,rfl⟩:=hj;exact hc j l hl)
 rw[lS,hl]at this;simp only[this,eP,fX];rfl;simp only[loadVar,eU,uL hu,eP,ha,jG,if_false];have:=hc 0 l rfl;rw[Addr.add_zero']at this;simp[run_load,this,V1.af]
theorem yB{off:Nat}(h:td P t cs off=some v) :
   (part t (cs.map (ai.af ae ph)).toArray off).run P w = .ok (v.af ae ph) w:=by
 obtain⟨⟨hu,hs,hv⟩,hc⟩:=nS h;simp only[part,eU,uL hu,eP];rcases hv with⟨ha,ls,rfl,hl⟩|⟨ha,l,rfl⟩;simp only[ha,if_true,eU,cm hs,eP,fX,V1.af];congr 2;unfold td at h;simp only[hu,hs,decide_true,Bool.and_self,if_true,ha,bH]at h;obtain⟨K7,AJ,e⟩:=h;obtain⟨h1,h2,h3⟩:=zA AJ;simp only[V1.agg.injEq]at e;subst e;apply kM;simp[Array.toList_extract,List.extract_eq_take_drop,h2,List.map_take,List.map_drop];have:=hc 0 l rfl;simp only[iM]at this;simp[ha,this,V1.af]
theorem C3:∀ {n:Nat} {cells:List ai} {off sz:Nat} {ls:List ai},te cells off sz n=some ls->ls.length=n/\∀j l,ls[j]?=some l->cells[off+j*sz]?=some l:=by
 intro n;induction n with
 |zero=>intro cells off sz ls h;simp only[te,ah]at h;subst h;simp
 | succ n ih=>
   intro cells off sz ls h;simp only[te]at h;split at h;rename_i l K7 h1 h2;simp only[ah]at h;subst h;obtain⟨h3,h4⟩:=ih h2;refine⟨by simp[h3],fun j l' hj=>?_⟩;cases j with
   |zero=>simp at hj;subst hj;simpa using h1
   | succ j=>
     simp only[A1]at hj;have:=h4 j l' hj;rw[lR,Nat.one_mul];rwa[show off+(j*sz+sz)=off+sz+j*sz by omega]
   cases h
theorem G4:∀ {ls:List ai} {j:Nat} {l:ai},uN x j ls=some l->∀i:Nat,x.af ae=((j+i:Nat):Int)->i<ls.length->∃l',ls[i]?=some l'/\l.af ae ph=l'.af ae ph:=by
 intro ls;induction ls with
 |nil=>intro j l h;simp[uN]at h
 | cons l0 ls ih=>
   intro j l h i hx hi;cases ls with
   | nil=>
     simp only[uN,ah]at h;subst h;have:i=0:=by simp at hi;exact hi
     subst this;exact⟨l0,rfl,rfl⟩
   | cons l1 ls=>
     simp only[uN]at h;split at h;rename_i k a k' b h1;split at h;rename_i hk;subst hk;simp only[ah]at h;subst h;cases i with
     | zero=>
       refine⟨_,rfl,?_⟩;simp only[iM]at hx;simp[ai.af,IE.af,hx]
     | succ i=>
       obtain⟨l',xl,he⟩:=ih h1 i (by rw[hx];congr 1;omega) (by simpa using hi);refine⟨l',by simpa using xl,?_⟩;have cV:x.af ae≠(j:Int):=by rw[hx];omega
       rw[<- he];simp[ai.af,IE.af,cV]
     cases h;rename_i p q h1;simp only[ah]at h;subst h;cases i with
     | zero=>
       refine⟨_,rfl,?_⟩;simp only[iM]at hx;simp[ai.af,BE.af,IE.af,hx]
     | succ i=>
       obtain⟨l',xl,he⟩:=ih h1 i (by rw[hx];congr 1;omega) (by simpa using hi);refine⟨l',by simpa using xl,?_⟩;have cV:x.af ae≠(j:Int):=by rw[hx];omega
       rw[<- he];simp[ai.af,BE.af,IE.af,cV]
     cases h
theorem yC{cells:List ai}{off:Nat}(h:G5 cells off sz n x=some l)(h0:0<=x.af ae)(h1:x.af ae<(n:Int)) :
   ∃l',cells[off+(x.af ae).toNat*sz]?=some l'/\l.af ae ph=l'.af ae ph:=by
 unfold G5 at h;split at h;rename_i ls AJ;obtain⟨e1,e2⟩:=C3 AJ;obtain⟨l',xl,he⟩:=G4 (ae:=ae) (ph:=ph) h (x.af ae).toNat (by omega) (by omega);exact⟨l',e2 _ l' xl,he⟩;cases h
theorem EY{cells:List ai}(h0:0<=x.af ae)(h1:x.af ae<(n:Int)):∀ {m off:Nat} {ls:List ai},tf cells sz n x off m=some ls->
   ls.length=m/\∀j l,ls[j]?=some l->∃l',cells[off+j+(x.af ae).toNat*sz]?=some l'/\l.af ae ph=l'.af ae ph:=by
 intro m;induction m with
 |zero=>intro off ls h;simp only[tf,ah]at h;subst h;simp
 | succ m ih=>
   intro off ls h;simp only[tf]at h;split at h;rename_i l K7 h2 h3;simp only[ah]at h;subst h;obtain⟨e1,e2⟩:=ih h3;refine⟨by simp[e1],fun j l' hj=>?_⟩;cases j with
   |zero=>simp at hj;subst hj;exact yC h2 h0 h1
   | succ j=>
     simp only[A1]at hj;have:=e2 j l' hj;rwa[show off+1+j=off+(j+1)by omega]at this
   cases h
theorem C4:∀ {ks:List CK} {j0 j:Nat},(nK lv x j0 ks)[j]?=(ks[j]?).map (rG lv x (j0+j)):=by
 intro ks;induction ks with
 |nil=>intro j0 j;simp[nK]
 | cons k ks ih=>
   intro j0 j;cases j with
   |zero=>simp[nK]
   |succ j=>simp only[nK,A1,ih];rw[show j0+1+j=j0+(j+1)by omega]
theorem tg{j:Nat}{k:CK}:(rG lv x j k).af ae ph=k.val (cellAt (ae lv).list (x.af ae) j):=by
 cases k<;>rfl
def pf(ph:Ph):ai->Option Nat
 |.p id _=>some (ph.r id)
 |.pi id _ _ _ _=>some (ph.r id)
 |.ep row _ _ _=>(ph.val row).ownBlock
 |.ab row _ _=>(ph.val row).ownBlock
 |_=>none
theorem jI{r:Row}(h:gH B ae ph r w){i:Int}(h0:0<=i)(h1:i<((ae r.lv).list.length:Int)) :
   ∃a cap,ph.v r.id=(some a,(ae r.lv).list.length,cap)/\∀j k,r.ks[j]?=some k->w.cell? (a.add (i.toNat*r.ks.length+j))=some (k.val (cellAt (ae r.lv).list i j)):=by
 obtain⟨base,cap,hv,hn,ma,hc⟩:=h.reads;have hlen:0<(ae r.lv).list.length:=by omega
 cases base with
 |none=>exact absurd (ma rfl).1 (by omega)
 | some a=>
   have xd:ph.v r.id=(some a,(ae r.lv).list.length,cap):=by
     simp only[Ph.val,Value.slice.injEq]at hv;exact Prod.ext hv.1 (Prod.ext hv.2.1 hv.2.2)
   refine⟨a,cap,xd,fun j k hj=>?_⟩;have I0:j<r.ks.length:=(dh.1 hj).1;have:=mX r.ks (ae r.lv).list i.toNat j (by omega) I0;rw[hj]at this;obtain⟨a',e,mS⟩:=hc _ _ this;simp only[ah]at e;subst e;exact mS
theorem DP{ns:List BE}{w':World}(h:DQ P st G t l=some (ns,v))(hG:G.af ae=true)(hn:∀n∈ns,n.af ae=true)
   (hm:kn B ae ph st.aY st.rows w) (hw:∀k,pf ph l=some k->w'.heap[k]?=w.heap[k]?):(Instr.loadAt t (l.af ae ph)).run P w' = .ok (v.af ae ph) w':=by
 unfold DQ at h;split at h;rename_i id off;split at h;rename_i b hb;simp only[bH,aA]at h;obtain⟨v',hv,rfl,rfl⟩:=h;obtain⟨bq,rfl⟩:=eK hb;obtain⟨qA,iW⟩:=nS hv;have PB:=(hm.nJ b bq).2;have Jf:=hw _ rfl;rw[PB]at Jf;simp only[Instr.loadAt,ai.af,Instr.sureAddr,eU,fX,eP];refine iX qA fun j lf hj=>?_;rw[jH,cell_of_row w' _ _ _ _ _ Jf];have:=iW j lf hj;simp[this];cases h;rename_i id off sz n x;split at h;rename_i b hb;obtain⟨bq,rfl⟩:=eK hb;have PB:=(hm.nJ b bq).2;have Jf:=hw _ rfl;rw[PB]at Jf;split at h;cases h;rename_i hc;simp only[nQ,Bool.not_eq_false,ao,aM]at hc;have fin:∀v:V1,Looks P t v->(∀j l,v.leaves[j]?=some l->∃l',b.cells[off+j+(x.af ae).toNat*sz]?=some l'/\l.af ae ph=l'.af ae ph)->
     (Instr.loadAt t ((ai.pi b.id off sz n x).af ae ph)).run P w' = .ok (v.af ae ph) w':=by
   intro v qA iW;simp only[Instr.loadAt,ai.af,Instr.sureAddr,eU,fX,eP];refine iX qA fun j lf hj=>?_;obtain⟨l',h1,h2⟩:=iW j lf hj;rw[jH,cell_of_row w' _ _ _ _ _ Jf,show off+(x.af ae).toNat*sz+j=off+j+(x.af ae).toNat*sz by omega];simp[h1,h2]
 split at h;rename_i ha;simp only[bH,aA]at h;obtain⟨ls,AJ,rfl,rfl⟩:=h;have h0:=cf (hn _ (aU ..));have h1:=fu (hn _ (bn _ (aU ..)));obtain⟨e1,e2⟩:=EY (ae:=ae) (ph:=ph) (x:=x) (n:=n) h0 h1 AJ;exact fin _ ⟨hc.1,hc.2,.inl ⟨ha,ls,rfl,e1⟩⟩ e2;rename_i ha;simp only[bH,aA]at h;obtain⟨lf,hlf,rfl,rfl⟩:=h;have h0:=cf (hn _ (aU ..));have h1:=fu (hn _ (bn _ (aU ..)));refine fin _ ⟨hc.1,hc.2,.inr ⟨by simpa using ha,lf,rfl⟩⟩ fun j l hj=>?_;cases j with
 | zero=>
   simp only[V1.leaves,kB,ah]at hj;subst hj;exact yC hlf h0 h1
 |succ j=>simp[V1.leaves]at hj
 cases h;rename_i row sz x j;split at h;rename_i r hr;obtain⟨bq,rfl⟩:=aZ hr;split at h;rename_i hc;simp only[ao,aM]at hc;obtain⟨hg,rfl⟩:=hc;split at h;rename_i v' hv;simp only[ah,aA]at h;obtain⟨rfl,rfl⟩:=h;have h0:=cf (hn _ (aU ..));have h1:=fu (hn _ (bn _ (aU ..)));simp only[IE.af]at h0 h1;obtain⟨a,cap,jN,ik⟩:=jI (hm.row r bq (BE.cW hg hG)) h0 h1;obtain⟨qA,iW⟩:=nS hv;simp only[Instr.loadAt,ai.af,jN,Instr.sureAddr,eU,fX,eP];refine iX qA fun jj lf hj=>?_;have:=iW jj lf hj;rw[C4]at this;simp only[bH,gK]at this;obtain⟨k,hk,rfl⟩:=this;rw[iz,Nat.add_assoc,tg,<- ik _ k hk];refine World.cell?_of_block (w:=w) ?_;have lF:∀n,(a.add n).block=a.block:=fun n=>by unfold Addr.add;split<;>rfl
 rw[lF];exact hw _ (by simp[pf,Ph.val,jN,Value.ownBlock]);rename_i hv;unfold PC at h;split at h;rename_i k n nL;split at h;rename_i hc;simp only[ao,aM]at hc;simp only[ah,aA]at h;obtain⟨rfl,rfl⟩:=h;have hle:=cf (hn _ (aU ..));simp only[IE.af]at hle;have bl:=hm.row r bq (BE.cW hg hG);obtain⟨a,cap,jN,_⟩:=jI bl (i:=0) (Int.le_refl _) (by omega);have MX:∀q:Nat,q<P.cellsOf t->w.cell? (a.add (n+q))=some (k.val (cellAt (ae r.lv).list ((n+q:Nat):Int) 0)):=fun q hq=>by
   obtain⟨a',qB,EZ,ik⟩:=jI bl (i:=((n+q:Nat):Int)) (by omega) (by omega);rw[jN]at EZ;simp only[aA,ah]at EZ;obtain⟨rfl,_⟩:=EZ;have:=ik 0 k (by rw[nL];rfl);rw[nL]at this;simp only[List.length_singleton,Nat.mul_one,iM,xm]at this;exact this
 simp only[Instr.loadAt,ai.af,jN,Instr.sureAddr,eU,fX,eP,IE.af];refine iX ⟨hc.1.1,hc.1.2,.inl ⟨hc.2,_,rfl,by simp⟩⟩ fun jj lf hj=>?_;simp only[V1.leaves,gL,bH]at hj;obtain⟨q,hq,rfl⟩:=hj;obtain⟨Pa,hqe⟩:=dh.1 hq;simp only[List.length_range]at Pa;simp only[List.getElem_range]at hqe;subst hqe;rw[tg,iz,nL];simp only[List.length_singleton,Nat.mul_one,iM,IE.af];rw[show(Int.ofNat n).toNat=n from rfl,<- MX jj Pa];refine World.cell?_of_block (w:=w) ?_;have lF:∀n,(a.add n).block=a.block:=fun n=>by unfold Addr.add;split<;>rfl
 rw[lF];exact hw _ (by simp[pf,Ph.val,jN,Value.ownBlock]);cases h;cases h;cases h;cases h;rename_i row m b;split at h;rename_i r hr;obtain⟨bq,rfl⟩:=aZ hr;split at h;rename_i hc;simp only[ao,aM,nQ]at hc;obtain⟨⟨⟨⟨hg,nL⟩,hu⟩,oR⟩,hna⟩:=hc;simp only[ah,aA]at h;obtain⟨rfl,rfl⟩:=h;have h1:=fu (hn _ (aU ..));have h2:=hn _ (bn _ (aU ..));rw[BE.cz]at h2;simp only[IE.af,BE.af,aM]at h1 h2;obtain⟨a,cap,jN,ik⟩:=jI (hm.row r bq (BE.cW hg hG)) (i:=(m:Int)) (by omega) h1;have mS:=ik 0 (.i .u8) (by rw[nL];rfl);rw[nL]at mS;simp only[List.length_singleton,Nat.mul_one,iM,xm]at mS;simp only[Instr.loadAt,ai.af,jN,Instr.sureAddr,eU,fX,eP];refine iX ⟨hu,by omega,.inr ⟨hna,_,rfl⟩⟩ fun jj lf hj=>?_;cases jj with
 |succ jj=>simp[V1.leaves]at hj
 | zero=>
   simp only[V1.leaves,kB,ah]at hj;subst hj;rw[iz,iM];have hb:∀n,(a.add n).block=a.block:=fun n=>by unfold Addr.add;split<;>rfl
   have:=World.cell?_of_block (w:=w) (w':=w') (a:=a.add m) (by rw[hb];exact hw _ (by simp[pf,Ph.val,jN,Value.ownBlock]));rw[this,mS];simp[ai.af,CK.val,IE.af,mW h2]
 cases h;cases h;cases h
end
section
open Go.RowKit
variable {ae:aH}{ph:Ph}{P:Program}
variable{w:World}{t e:TypeId}{k:IntKind}{B:Nat}{bs:List UInt8}{i:Int}{w':World}{base:Option Addr}{kl:IntKind}{n:IE}{sz:Nat}{x:Value}
theorem E0(bs:List UInt8):(⟨bs.toArray⟩:ByteArray).toList=bs:=by
 rw[ByteArray.toList_eq]
theorem MY(bs:List UInt8)(i:Nat):(⟨bs.toArray⟩:ByteArray)[i]?=bs[i]? :=by
 by_cases h:i<bs.length;rw[getElem?_pos (⟨bs.toArray⟩:ByteArray) i (by simpa[ByteArray.size]using h),eT h];rfl;rw[getElem?_neg (⟨bs.toArray⟩:ByteArray) i (by simpa[ByteArray.size]using h),th (by omega)]
theorem vC(bs:List UInt8)(l h:Nat):(⟨bs.toArray⟩:ByteArray).extract l h=⟨((bs.drop l).take (h-l)).toArray⟩:=by
 apply ByteArray.ext;simp
theorem vW(bs:List UInt8):(⟨bs.toArray⟩:ByteArray).size=bs.length:=by simp[ByteArray.size]
theorem G6{st:St}{G:BE}{X Y:Operand}{x y:V1}{ns:List BE}{p:BE}(h:VQ P st G t X Y x y=some (ns,p))(hG:G.af ae=true)(hn:∀n∈ns,n.af ae=true)(hm:kn B ae ph st.aY st.rows w) :
   (do eqGuard .eql t X Y (x.af ae ph) (y.af ae ph);binOp .eql t (x.af ae ph) (y.af ae ph):Sem Value).run P w' = .ok (.bool (p.af ae)) w'/\
   (do eqGuard .neq t X Y (x.af ae ph) (y.af ae ph);binOp .neq t (x.af ae ph) (y.af ae ph):Sem Value).run P w' = .ok (.bool (!(p.af ae))) w':=by
 have sl:∀(a:Option Addr) (l c:Nat),(eqGuard .eql t X Y (.slice a l c) (.slice none 0 0)=pure ())/\(eqGuard .neq t X Y (.slice a l c) (.slice none 0 0)=pure ()):=fun a l c=>⟨rfl,rfl⟩;unfold VQ at h;split at h;split at h;rename_i e hu;simp only[ah,aA]at h;obtain⟨rfl,rfl⟩:=h;simp only[V1.af,ai.af,(sl none 0 0).1,(sl none 0 0).2];constructor;simp[Lib.run_eql_slice_nil w' t e none 0 0 0 0 hu,BE.af];simp[run_neq_slice_nil w' t e none 0 0 hu,BE.af];cases h;rename_i row;split at h;rename_i e r hu hr;split at h;rename_i hg;simp only[ah,aA]at h;obtain⟨rfl,rfl⟩:=h;obtain⟨bq,rfl⟩:=aZ hr;have h1:=fu (hn _ (aU ..));simp only[IE.af]at h1;obtain⟨a,cap,jN,_⟩:=jI (hm.row r bq (BE.cW hg hG)) (i:=0) (Int.le_refl _) h1;simp only[V1.af,ai.af,Ph.val,jN,(sl (some a) _ cap).1,(sl (some a) _ cap).2];constructor;simp[Lib.run_eql_slice_nil w' t e (some a) _ cap 0 0 hu,BE.af];simp[run_neq_slice_nil w' t e (some a) _ cap hu,BE.af];cases h;cases h;rename_i a b;split at h;rename_i hu;simp only[ah,aA]at h;obtain⟨rfl,rfl⟩:=h;simp only[V1.af,ai.af,eqGuard_at_string,binOp_string_eql,binOp_string_neq,E0];constructor;simp[BE.af];by_cases e:a=b<;>simp[e];simp[BE.af];by_cases e:a=b<;>simp[e];cases h;split at h;rename_i ms hu;split at h;rename_i hc;simp only[ah,aA]at h;obtain⟨rfl,rfl⟩:=h;have hi:P.isIface t=true:=by simp[Program.isIface,hu]
 have g:∀op:BinOp,eqGuard op t X Y .nilIface .nilIface=pure ():=fun op=>by
   cases X with
   |const c=>exact eqGuard_nil_constL ..
   | _=>cases Y with
     |const c=>exact eqGuard_nil_constR ..
     |_=>simp[isConst]at hc
 simp only[V1.af,ai.af,g];constructor;simp[run_eql_nil_nil_at w' t hi,BE.af];simp[run_neq_nil_nil_at w' t hi,BE.af];cases h;cases h;cases h
theorem PD{r:Row}(h:gH B ae ph r w){lo:IE}(h0:0<=lo.af ae)(hn:0<n.af ae)(hl:lo.af ae+n.af ae<=((ae r.lv).list.length:Int)) :
   ∃a cap,ph.v r.id=(some a,(ae r.lv).list.length,cap)/\(ai.vw r.id sz lo n).af ae ph = .slice (some (a.add ((lo.af ae).toNat*sz))) (n.af ae).toNat (cap-(lo.af ae).toNat):=by
 obtain⟨a,cap,jN,_⟩:=jI h h0 (by omega);refine⟨a,cap,jN,?_⟩;obtain⟨base,qB,hv,hlen,_⟩:=h.reads;simp only[Ph.val,jN,Value.slice.injEq]at hv;obtain⟨_,_,rfl⟩:=hv;simp only[ai.af,jN];rw[if_neg (by omega)];rfl
theorem sG{a:Addr}{len cap:Nat}(hu:P.underlying t=some (.slice e))(h0:0<=i)(h1:i<(len:Int))(hs:0<P.cellsOf e) :
   (Instr.indexAt t (.slice (some a) len cap) (.int k i)).run P w = .ok (.pointer (some (a.add (i.toNat*P.cellsOf e)))) w:=by
 have he:P.elem t=e:=by simp[Program.elem,hu]
 rw[run_indexAt_slice w t a len cap k i (by rw[he];exact hu),he,if_pos ⟨h0,h1⟩,cm hs];rfl
theorem qC{a:Addr}{len cap:Nat}(hu:P.underlying t=some (.slice e))(h0:0<=i)(h1:i<(len:Int))(hs:(P.info? e).isSome=true) :
   (Instr.indexAt t (.slice (some a) len cap) (.int k i)).run P w = .ok (.pointer (some (a.add (i.toNat*P.cellsOf e)))) w:=by
 have he:P.elem t=e:=by simp[Program.elem,hu]
 obtain⟨info,hi⟩:=A6.1 hs;rw[run_indexAt_slice w t a len cap k i (by rw[he];exact hu),he,if_pos ⟨h0,h1⟩];simp[sizeOf,typeInfo,hi,Program.cellsOf]
theorem PE{r:Row}(h:gH B ae ph r w){lo i:IE}(hu:P.underlying t=some (.slice e))(hc:P.cellsOf e=sz)(hk:r.ks.length=sz)(h0:0<=lo.af ae)(hl:lo.af ae+n.af ae<=((ae r.lv).list.length:Int))(vX:0<=i.af ae)(K8:i.af ae<n.af ae) :
   (Instr.indexAt t ((ai.vw r.id sz lo n).af ae ph) (.int k (i.af ae))).run P w' = .ok ((ai.ep r.id sz (IE.add lo i).mk 0).af ae ph) w':=by
 obtain⟨a,cap,jN,hd⟩:=PD (sz:=sz) h h0 (by omega) hl;rw[hd,sG hu vX (by omega) (by rw[hc,<- hk];exact h.1)];simp only[ai.af,jN,IE.cz,IE.af,hc,iz,iM];congr 4;rw[<- lR];congr 1;omega
theorem PF{r:Row}(h:gH B ae ph r w){m:Int}{b:UInt8}(hu:P.underlying t=some (.slice e))(hc:P.cellsOf e=1)(hk:r.ks.length=1)(h0:0<=m)(h1:m<((ae r.lv).list.length:Int)) :
   (Instr.indexAt t ((ai.kb r.id bs).af ae ph) (.int k m)).run P w' = .ok ((ai.ab r.id m.toNat b).af ae ph) w':=by
 obtain⟨a,cap,jN,_⟩:=jI h h0 h1;simp only[ai.af,Ph.val,jN];rw[sG hu h0 h1 (by omega)];simp[hc]
theorem MZ:∀ {ls:List ai} {xs:List dx},G7 ls=some xs->ls.map (ai.af ae ph)=xs.map (dx.af ae ph):=by
 intro ls;induction ls with
 |nil=>intro xs h;simp only[G7,ah]at h;subst h;rfl
 | cons l ls ih=>
   intro xs h;simp only[G7]at h;split at h;rename_i x mR hx sR;simp only[ah]at h;subst h;rw[ai.down_up hx];simp[dx.ET,ih sR];cases h
theorem lT{y:Nat}{c:BoundsCode}(h0:0<=i)(h1:i<=(y:Int)):(Instr.sliceBound (.int k i) y c).run P w = .ok i.toNat w:=by
 simp[Instr.sliceBound,asIntOf,h0,h1]
theorem vE{lo hi mx:Option Value}(hu:P.underlying t=some (.slice e)):(Instr.sliceAt t x lo hi mx).run P w=(Instr.slice t x lo hi mx).run P w:=by
 simp[Instr.sliceAt,run_underlying hu]
theorem zB{lo hi mx:Option Value}(hu:P.underlying t=some .string):(Instr.sliceAt t x lo hi mx).run P w=(Instr.slice t x lo hi mx).run P w:=by
 simp[Instr.sliceAt,run_underlying hu]
theorem DR{len cap:Nat}{lo hi:Int}(hu:P.underlying t=some (.slice e))(hv:Option Value)(hh:hi=(match hv with|none=>(len:Int)|some (.int _ n)=>n|some _=>hi))(hk:∀v,hv=some v->∃k,v = .int k hi)(h0:0<=lo)(h1:lo<=hi)(h2:hi<=(cap:Int))(hs:0<P.cellsOf e) :
   (Instr.sliceAt t (.slice base len cap) (some (.int kl lo)) hv none).run P w = .ok (.slice (if cap=lo.toNat then base else base.map (·.add (lo.toNat*P.cellsOf e))) (hi-lo).toNat (cap-lo.toNat)) w:=by
 rw[vE hu];have e1:(Instr.sliceBounds true len cap (some (.int kl lo)) hv none).run P w = .ok (lo.toNat,hi.toNat,cap) w:=by
   cases hv with
   | none=>
     simp only at hh;subst hh;simp[Instr.sliceBounds,lT h0 h1]
   | some v=>
     obtain⟨k,rfl⟩:=hk v rfl;simp[Instr.sliceBounds,lT (show 0<=hi by omega) h2,lT h0 (show lo<=(hi.toNat:Int)by omega)]
 simp only[Instr.slice,eU,run_underlying hu,eP,e1,cm hs,fX];congr 3;omega
theorem Jg{len cap:Nat}{kh km:IntKind}(hu:P.underlying t=some (.slice e))(h2:len<=cap)(hs:0<P.cellsOf e) :
   (Instr.sliceAt t (.slice base len cap) none (some (.int kh (len:Int))) (some (.int km (len:Int)))).run P w = .ok (.slice base len len) w:=by
 rw[vE hu];have e1:(Instr.sliceBounds true len cap none (some (.int kh (len:Int))) (some (.int km (len:Int)))).run P w = .ok (0,len,len) w:=by
   simp[Instr.sliceBounds,lT (P:=P) (w:=w) (k:=km) (c:=.slice3Acap) (show(0:Int)<=(len:Int)by omega) (show(len:Int)<=(cap:Int)by omega),lT (P:=P) (w:=w) (k:=kh) (c:=.slice3B) (y:=len) (show(0:Int)<=(len:Int)by omega) (Int.le_refl _)]
 simp only[Instr.slice,eU,run_underlying hu,eP,e1,cm hs,fX];cases base with
 |none=>simp
 |some a=>simp[Addr.add_zero']
theorem G8{lo:Int}(hu:P.underlying t=some .string)(h0:0<=lo)(h1:lo<=(bs.length:Int)) :
   (Instr.sliceAt t (.string ⟨bs.toArray⟩) (some (.int kl lo)) none none).run P w = .ok (.string ⟨(bs.drop lo.toNat).toArray⟩) w:=by
 rw[zB hu];have e1:(Instr.sliceBounds false bs.length bs.length (some (.int kl lo)) none none).run P w = .ok (lo.toNat,bs.length,bs.length) w:=by
   simp[Instr.sliceBounds,lT h0 h1]
 simp only[Instr.slice,eU,run_underlying hu,eP,vW,fX,vC];simp only[Option.isSome_none,jG,if_false,eU,fX,eP];rw[e1];simp only[eP];rw[oS (by simp)]
theorem M0{hi:Int}{kh:IntKind}(hu:P.underlying t=some .string)(h0:0<=hi)(h1:hi<=(bs.length:Int)) :
   (Instr.sliceAt t (.string ⟨bs.toArray⟩) none (some (.int kh hi)) none).run P w = .ok (.string ⟨(bs.take hi.toNat).toArray⟩) w:=by
 rw[zB hu];have e1:(Instr.sliceBounds false bs.length bs.length none (some (.int kh hi)) none).run P w = .ok (0,hi.toNat,bs.length) w:=by
   simp[Instr.sliceBounds,lT h0 h1]
 simp only[Instr.slice,eU,run_underlying hu,eP,vW,fX,vC];simp only[Option.isSome_none,jG,if_false,eU,fX,eP];rw[e1];simp
end
section
open Go.RowKit
variable {ae:aH}{ph:Ph}{P:Program}
variable{w:World}{args:Array Operand}{G:BE}{st:St}{t:TypeId}{x:Operand}{o:Oper}{y:Operand}
theorem ai.fR(l:ai):(l.af ae ph).cells = #[l.af ae ph]:=by
 cases l with
 |ep row sz x j=>simp only[ai.af];cases(ph.v row).1<;>rfl
 |ab row m b=>simp only[ai.af];cases(ph.v row).1<;>rfl
 |_=>rfl
theorem V1.fR(v:V1):(v.af ae ph).cells=(v.leaves.map (ai.af ae ph)).toArray:=by
 cases v with
 |one l=>simp[V1.af,V1.leaves,ai.fR]
 |agg ls=>simp[V1.af,V1.leaves,Value.cells]
theorem ai.zC(l:ai):(l.af ae ph).oneCell'=true:=by
 cases l with
 |ep row sz x j=>simp only[ai.af];cases(ph.v row).1<;>rfl
 |ab row m b=>simp only[ai.af];cases(ph.v row).1<;>rfl
 |_=>rfl
theorem na:∀(ls cells:List ai) (off:Nat),(iY cells off ls).map (ai.af ae ph) =
   ((ls.map (ai.af ae ph)).zipIdx 0).foldl (fun cs x=>cs.set (off+x.2) x.1) (cells.map (ai.af ae ph)):=by
 have gen:∀(ls cells:List ai) (off k:Nat),(iY cells (off+k) ls).map (ai.af ae ph) =
     ((ls.map (ai.af ae ph)).zipIdx k).foldl (fun cs x=>cs.set (off+x.2) x.1) (cells.map (ai.af ae ph)):=by
   intro ls;induction ls with
   |nil=>intro cells off k;rfl
   | cons l ls ih=>
     intro cells off k;simp only[iY,kD,List.zipIdx_cons,vY];rw[show off+k+1=off+(k+1)by omega,ih];simp[List.map_set]
 intro ls cells off;simpa using gen ls cells off 0
theorem yD(vs:List Value)(cs:Array Value)(off:Nat) :
   (vs.toArray.zipIdx.foldl (fun cs (x:Value×Nat)=>cs.setIfInBounds (off+x.2) x.1) cs).toList=(vs.zipIdx 0).foldl (fun cs x=>cs.set (off+x.2) x.1) cs.toList:=by
 rw[<- Array.foldl_toList];simp only[Array.toList_zipIdx,EW];generalize vs.zipIdx 0=l;induction l generalizing cs with
 |nil=>rfl
 |cons x l ih=>simp only[vY];rw[ih];simp
theorem Jh(place:Nat->Option (Nat×Nat)):∀(ps:List (Nat×V1)) (cells r:List ai),DS place cells ps=some r->
   Instr.fill place (cells.map (ai.af ae ph)).toArray (ps.map fun p=>(p.1,p.2.af ae ph))=some (r.map (ai.af ae ph)).toArray:=by
 intro ps;induction ps with
 |nil=>intro cells r h;simp only[DS,ah]at h;subst h;rfl
 | cons p ps ih=>
   intro cells r h;obtain⟨i,v⟩:=p;simp only[DS]at h;split at h;cases h;rename_i off size hp;split at h;cases h;rename_i hc;simp only[not_or,ne_eq,Decidable.not_not,Nat.not_lt]at hc;simp only[kD,Instr.fill,hp,V1.fR];rw[if_neg (by simp;omega)];rw[<- ih _ _ h];congr 1;apply kM;rw[yD];simp[na]
theorem qa{a:Act}(hG:G.af ae=true)(ht:gg ae ph st.tmps a.tmps):∀ {l:List (Nat×Operand)} {ps:List (Nat×V1)},iH st G l=some ps->
   (l.map fun p=>(p.1,a.eval p.2))=ps.map fun p=>(p.1,p.2.af ae ph):=by
 intro l;induction l with
 |nil=>intro ps h;simp only[iH,ah]at h;subst h;rfl
 | cons p l ih=>
   intro ps h;obtain⟨i,x⟩:=p;simp only[iH]at h;split at h;rename_i v l' h1 h2;simp only[ah]at h;subst h;simp only[kD,ih h2,cR h1 hG ht];cases h
theorem xn{v:Value}{l:ai}(h:ti v=some l):l.af ae ph=v:=by
 unfold ti at h;split at h<;>simp only[ah,reduceCtorEq]at h<;>subst h<;>rfl
theorem C5:∀ {vs:List Value} {ls:List ai},vs.mapM ti=some ls->ls.map (ai.af ae ph)=vs:=by
 intro vs;induction vs with
 |nil=>intro ls h;simp at h;subst h;rfl
 | cons v vs ih=>
   intro ls h;rw[List.mapM_cons]at h;simp only[bind,Option.bind_eq_some_iff,pure,ah]at h;obtain⟨l,h1,K7,h2,rfl⟩:=h;simp[xn h1,ih h2]
theorem yF{v:V1}(h:qE P t=some v):(zeroValue t).run P w = .ok (v.af ae ph) w:=by
 unfold qE at h;cases hi:P.info? t with
 |none=>simp[hi]at h
 | some i=>
   cases hz:i.zero with
   |none=>simp[hi,hz]at h
   | some z=>
     simp only[hi,Option.bind_some,hz]at h;have:(zeroValue t).run P w = .ok z w:=by simp[zeroValue,typeInfo,hi,hz]
     rw[this];congr 1;split at h;rename_i cs e;simp only[bH]at h;obtain⟨ls,AJ,rfl⟩:=h;simp only[ah]at e;subst e;simp[V1.af,C5 AJ];rename_i u _ e;simp only[bH]at h;obtain⟨l,hl,rfl⟩:=h;simp only[ah]at e;subst e;exact(xn hl).symm;rename_i e;cases e
theorem gk(h:(P.info? t).isSome=true):(sizeOf t).run P w = .ok (P.cellsOf t) w:=by
 obtain⟨i,hi⟩:=A6.1 h;simp[sizeOf,typeInfo,hi,Program.cellsOf]
theorem run_places:∀(fs:List Field),fs.all (fun f=>(P.info? f.type).isSome)=true->
   (fs.mapM fun(f:Field)=>(do pure (f.offset,<- sizeOf f.type):Sem (Nat×Nat))).run P w = .ok (fs.map fun(f:Field)=>(f.offset,P.cellsOf f.type)) w:=by
 intro fs;induction fs with
 |nil=>intro _;rfl
 | cons f fs ih=>
   intro h;simp only[List.all_cons,ao]at h;rw[List.mapM_cons];simp only[eU,gk h.1,eP,fX,ih h.2,kD]
theorem run_build{parts:Array (Nat×Value)}{ps:List (Nat×V1)}{z r:List ai}{place:Nat->Option (Nat×Nat)}(hz:qE P t=some (.agg z))(hp:vZ P t=some place)
   (hf:DS place z ps=some r) (GQ:parts.toList=ps.map fun p=>(p.1,p.2.af ae ph)):(Instr.build t parts).run P w = .ok (.agg (r.map (ai.af ae ph)).toArray) w:=by
 have hzr:=yF (ae:=ae) (ph:=ph) (w:=w) hz;have Yp:=Jh (ae:=ae) (ph:=ph) place ps z r hf;unfold vZ at hp;simp only[Instr.build,eU,hzr,eP,V1.fR,V1.leaves];split at hp;rename_i fs hu;split at hp;rename_i cK;simp only[ah]at hp;subst hp;simp only[run_underlying hu,eP,eU];have hpl:=run_places (P:=P) (w:=w) fs.toList cK;have:(fs.mapM fun(f:Field)=>(do pure (f.offset,<- sizeOf f.type):Sem (Nat×Nat))).run P w = .ok (fs.map fun(f:Field)=>(f.offset,P.cellsOf f.type)) w:=by
   rw[Array.mapM_eq_mapM_toList];simp only[Sem.run_map,hpl,eP];congr 1;apply kM;simp
 rw[this];simp only[eP,GQ];have e:(fun(x:Nat)=>(fs.map fun(f:Field)=>(f.offset,P.cellsOf f.type))[x]?)=fun(i:Nat)=>(fs[i]?).map fun(f:Field)=>(f.offset,P.cellsOf f.type):=by
   funext i;simp
 rw[e,Yp];rfl;cases hp;rename_i n e hu;split at hp;rename_i hi;simp only[ah]at hp;subst hp;simp only[run_underlying hu,eP,eU,gk hi,GQ,Yp];rfl;cases hp;cases hp
theorem eL{a:Act}{b:Builtin}{PG:Array TypeId}{x:Value}(ho:o.op = .call {callee:=.builtin b,args,argTypes:=PG})
   (hb:∀ts ty cs vs,builtin b ts ty cs vs=(do pure (.value (<- (match b with| .len=>Builtin.len_ ts ty vs| .max=>Builtin.max_ ts ty vs| .min=>Builtin.min_ ts ty vs|_=>Builtin.append_ ts ty vs)))))
   (hr:(match b with| .len=>Builtin.len_ PG o.type (args.map a.eval)| .max=>Builtin.max_ PG o.type (args.map a.eval)| .min=>Builtin.min_ PG o.type (args.map a.eval)|_=>Builtin.append_ PG o.type (args.map a.eval)).run P w = .ok x w) :
   (execOp a.eval o).run P w = .ok (.value x) w:=by
 simp only[execOp,ho,resolve,eU,fX,eP,invoke,hb,hr]
theorem K9(h:args.toList=[x,y])(f:Operand->Value):args.map f = #[f x,f y]:=by
 apply kM;simp[h]
theorem DT{z:Operand}(h:args.toList=[x,y,z])(f:Operand->Value):args.map f = #[f x,f y,f z]:=by
 apply kM;simp[h]
theorem rH(h:args.toList=[x])(f:Operand->Value):args.map f = #[f x]:=by
 apply kM;simp[h]
theorem ZK(a b:Int):(if b>a then b else a)=Max.max a b:=by omega
theorem ZL(a b:Int):(if b<a then b else a)=Min.min a b:=by omega
theorem G9{row sz:Nat}{i:IE}{j o:Nat}:(E1 row sz i j o).af ae ph=(ai.ep row sz i (j+o)).af ae ph:=by
 unfold E1;split;simp only[ai.af,IE.af,xm,Nat.mul_one,iM,gK];rfl;rfl
theorem mj{c:Bool×Nat}:(rI c).af ae ph=mG ph c:=by
 unfold rI mG;split;simp only[ai.af,IE.af];cases(ph.v c.2).1 with
 |none=>rfl
 |some a=>simp[Addr.add_zero']
 rfl
theorem E2{a:Act}(hG:G.af ae=true)(ht:gg ae ph st.tmps a.tmps):∀ {xs:List Operand} {dF:List (Bool×Nat)},tj st G xs=some dF->xs.map a.eval=dF.map (mG ph):=by
 intro xs;induction xs with
 |nil=>intro dF h;simp only[tj,ah]at h;subst h;rfl
 | cons x xs ih=>
   intro dF h;simp only[tj]at h;split at h;rename_i id l hx hl;simp only[ah]at h;subst h;have:=mj (ae:=ae) (ph:=ph) (c:=(false,id));simp only[kD,ih hl,aC hx hG ht,<- this];rfl;rename_i row l hx hl;simp only[ah]at h;subst h;have:=mj (ae:=ae) (ph:=ph) (c:=(true,row));simp only[kD,ih hl,aC hx hG ht,<- this];rfl;cases h
def La(st:St)(G:BE)(ph:Ph):Op->Option Nat
 |.load _ x=>(bB st G x).bind (pf ph)
 |_=>none
theorem Lb{B:Nat}{wr:Bool}{ns:List BE}{sv:SV}{a:Act}{w':World}(h:ZM P wr st G o.op=some (ns,sv))(hG:G.af ae=true)
   (hn:∀n∈ns,n.af ae=true) (ht:gg ae ph st.tmps a.tmps) (hm:kn B ae ph st.aY st.rows w) (hN:∀n∈st.a7,n.g.af ae=true->ac8 ae ph n/\0<n.aO.length) (hw:∀k,La st G ph o.op=some k->w'.heap[k]?=w.heap[k]?) :
   (execOp a.eval o).run P w' = .ok (.value (sv.af ae ph)) w':=by
 unfold ZM at h;split at h
 ·
   rename_i x heq;simp only[bH,aA]at h;obtain⟨v,hv,rfl,rfl⟩:=h;simp only[execOp,heq,fX,tc hv hG ht]
 ·
   rename_i x heq;simp only[bH,aA]at h;obtain⟨v,hv,rfl,rfl⟩:=h;simp only[execOp,heq,fX,tc hv hG ht]
 ·
   rename_i c x y heq;split at h
   . rename_i p hp;split at h
     . rename_i bx bZ hx hy;simp only[ah,aA]at h;obtain⟨rfl,rfl⟩:=h;have ec:=aC hp hG ht;simp only[ai.af]at ec;have res:∀q:BE,q.af ae=(if p.af ae then bx.af ae else bZ.af ae)->(execOp a.eval o).run P w' = .ok (.value (.bool (q.af ae))) w':=by
         intro q hq;simp only[execOp,heq,ec,asBool,eU,fX,eP,hq];cases hpd:p.af ae with
         | true=>
           have:=aC hx (by rw[BE.cz];simp[BE.af,hG,hpd]) ht;simp[this,ai.af]
         | false=>
           have:=aC hy (by rw[BE.cz];simp[BE.af,BE.cz,hG,hpd]) ht;simp[this,ai.af]
       refine res _ ?_;split
       all_goals
         simp only[BE.cz,BE.af];cases p.af ae<;>simp
     cases h
   cases h
 ·
   rename_i t x y u heq;split at h;rename_i k e k' e' h1 h2;simp only[bH,aA]at h;obtain⟨⟨rJ,l⟩,hb,rfl,rfl⟩:=h;have:=A5 (P:=P) (w:=w') (ph:=ph) t x y hb hn;simp only[execOp,heq,cR h1 hG ht,cR h2 hG ht,V1.af];simp only[eU]at this ⊢;rw[this];rfl;rename_i e e' _ h1 h2;split at h;rename_i r hq;simp only[ah,aA]at h;obtain⟨rfl,rfl⟩:=h;have:=(G6 (w':=w') hq hG hn hm).1;simp only[execOp,heq,cR h1 hG ht,cR h2 hG ht];simp only[eU]at this ⊢;rw[this];rfl;simp only[bH,aA]at h;obtain⟨p,hb,rfl,rfl⟩:=h;have:=(K6 (P:=P) (w:=w') (ae:=ae) (ph:=ph) hb x y).1;simp only[execOp,heq,cR h1 hG ht,cR h2 hG ht];simp only[eU]at this ⊢;rw[this];rfl;cases h
 ·
   rename_i t x y u heq;split at h;rename_i k e k' e' h1 h2;simp only[bH,aA]at h;obtain⟨⟨rJ,l⟩,hb,rfl,rfl⟩:=h;have:=A5 (P:=P) (w:=w') (ph:=ph) t x y hb hn;simp only[execOp,heq,cR h1 hG ht,cR h2 hG ht,V1.af];simp only[eU]at this ⊢;rw[this];rfl;rename_i e e' _ h1 h2;split at h;rename_i r hq;simp only[ah,aA]at h;obtain⟨rfl,rfl⟩:=h;have:=(G6 (w':=w') hq hG hn hm).2;simp only[execOp,heq,cR h1 hG ht,cR h2 hG ht];simp only[eU]at this ⊢;rw[this];simp[SV.af,V1.af,ai.af,BE.cz,BE.af];simp only[bH,aA]at h;obtain⟨p,hb,rfl,rfl⟩:=h;have:=(K6 (P:=P) (w:=w') (ae:=ae) (ph:=ph) hb x y).2;simp only[execOp,heq,cR h1 hG ht,cR h2 hG ht];simp only[eU]at this ⊢;rw[this];simp[SV.af,V1.af,ai.af,BE.cz,BE.af];cases h
 ·
   rename_i op t x y u _ _ heq;split at h;rename_i l1 l2 h1 h2;simp only[bH,aA]at h;obtain⟨⟨rJ,l⟩,hb,rfl,rfl⟩:=h;have:=A5 (P:=P) (w:=w') (ph:=ph) t x y hb hn;simp only[execOp,heq,aC h1 hG ht,aC h2 hG ht];simp only[eU]at this ⊢;rw[this];rfl;cases h
 ·
   rename_i t x heq;split at h;rename_i p hp;simp only[ah,aA]at h;obtain⟨rfl,rfl⟩:=h;simp only[execOp,heq,aC hp hG ht,ai.af,Op.unary,eU,fX,eP,SV.af,V1.af,BE.cz,BE.af];cases h
 ·
   rename_i t x heq;split at h;rename_i k e he;simp only[ah,aA]at h;obtain⟨rfl,rfl⟩:=h;have:=ko (ae:=ae) (ph:=ph) hn;simp only[execOp,heq,aC he hG ht,Op.unary,Op.intArith,SV.af,V1.af,this];simp[ai.af,Op.unary,Op.intArith,IE.af];cases h
 ·
   rename_i src dst x heq;split at h;rename_i k e d k' he hs hd;have hk:P.intKind dst=k':=by simp[Program.intKind,hd]
   have cP:∀n:Int,(convert src dst (.int k n)).run P w' = .ok (.int k' (k'.wrap n)) w':=fun n=>by
     have:=run_convert_int (P:=P) w' src dst k n (by rw[hs];rfl) (by rw[hk];exact hd);rw[hk]at this;exact this
   split at h;simp only[ah,aA]at h;obtain⟨rfl,rfl⟩:=h;have:=ko (ae:=ae) (ph:=ph) hn;simp only[SV.af,V1.af,this];simp only[execOp,heq,aC he hG ht,ai.af,eU,cP,eP,fX];simp only[ah,aA]at h;obtain⟨rfl,rfl⟩:=h;simp only[execOp,heq,aC he hG ht,ai.af,eU,cP,eP,fX,SV.af,V1.af,IE.cz,IE.af];cases h
 ·
   rename_i t x heq;split at h;rename_i l hl;simp only[bH,aA]at h;obtain⟨⟨rJ,v⟩,hb,rfl,rfl⟩:=h;have:=DP (w':=w') hb hG hn hm (fun k hk=>hw k (by simp[La,heq,hl,hk]));simp only[execOp,heq,aC hl hG ht,eU,this,eP,fX,SV.af];cases h
 ·
   rename_i s x f heq;have hfo:∀o' t',tk P s f=some (o',t')->∀ad:Addr,(Instr.fieldAt s (.pointer (some ad)) f).run P w' = .ok (.pointer (some (ad.add o'))) w':=by
     intro o' t' ho ad;unfold tk at ho;split at ho;rename_i fs hu;split at ho;rename_i fd VR;split at ho;cases ho;rename_i cV;simp only[ah,aA]at ho;obtain⟨rfl,rfl⟩:=ho;simp only[Instr.fieldAt,eU,run_underlying hu,eP,VR,Instr.sureAddr,fX,fieldPlace,cm (P:=P) (w:=w') (t:=fd.type) (by omega)];simp[cV];cases ho;cases ho
   split at h;rename_i id off o' t' hx ho;simp only[ah,aA]at h;obtain⟨rfl,rfl⟩:=h;simp only[execOp,heq,aC hx hG ht,ai.af,eU,hfo _ _ ho,eP,fX,SV.af,V1.af,jH];rename_i id off sz n z o' t' hx ho;simp only[ah,aA]at h;obtain⟨rfl,rfl⟩:=h;simp only[execOp,heq,aC hx hG ht,ai.af,eU,hfo _ _ ho,eP,fX,SV.af,V1.af,jH];rw[show off+(z.af ae).toNat*sz+o'=off+o'+(z.af ae).toNat*sz by omega]
   . rename_i row sz z j o' t' hx ho;split at h;rename_i r hr;split at h;rename_i hc;simp only[ah,aA]at h;obtain⟨rfl,rfl⟩:=h;obtain⟨bq,rfl⟩:=aZ hr;have h0:=cf (hn _ (aU ..));have h1:=fu (hn _ (bn _ (aU ..)));simp only[IE.af]at h0 h1;obtain⟨ad,cap,jN,_⟩:=jI (hm.row r bq (BE.cW hc hG)) h0 h1;simp only[SV.af,V1.af,G9];simp only[execOp,heq,aC hx hG ht,ai.af,jN,eU,hfo _ _ ho,eP,fX,iz,Nat.add_assoc];cases h;split at h
     . rename_i r hr;split at h
       . rename_i hc;simp only[ah,aA]at h;obtain⟨rfl,rfl⟩:=h;obtain⟨bq,rfl⟩:=dp hr;have h0:=cf (hn _ (aU ..));have h1:=fu (hn _ (bn _ (aU ..)));simp only[IE.af]at h0 h1;obtain⟨⟨base,cap,jN,_,ma⟩,_⟩:=hN r bq (BE.cW hc hG);cases base with
         |none=>have:=(ma rfl).1;omega
         |some ad=>
         have EZ:ph.v r.id=(some ad,(ae r.lv).list.length,cap):=by
           simp only[Ph.val,Value.slice.injEq]at jN;exact Prod.ext jN.1 (Prod.ext jN.2.1 jN.2.2)
         simp only[execOp,heq,aC hx hG ht,SV.af,V1.af,ai.af,EZ,eU,hfo _ _ ho,eP,fX,iz,Nat.add_assoc]
       cases h
     cases h
   cases h
 ·
   rename_i s x f heq;split at h;rename_i cs o' t' hx ho;simp only[bH,aA]at h;obtain⟨v,hv,rfl,rfl⟩:=h;unfold tk at ho;split at ho;rename_i fs hu;split at ho;rename_i fd VR;split at ho;cases ho;simp only[ah,aA]at ho;obtain⟨rfl,rfl⟩:=ho;simp only[execOp,heq,cR hx hG ht,V1.af,Instr.field,eU,run_underlying hu,eP,VR,asAgg,fX,yB hv,SV.af];cases ho;cases ho;cases h
 ·
   rename_i t x i heq;split at h
   . rename_i l k e hl hi;simp only[bH,aA]at h;obtain⟨⟨rJ,l'⟩,hb,rfl,rfl⟩:=h;simp only[execOp,heq,aC hl hG ht,aC hi hG ht,eU,SV.af,V1.af];have:(Instr.indexAt t (l.af ae ph) ((ai.i k e).af ae ph)).run P w' = .ok (l'.af ae ph) w':=by
       unfold PH at hb;split at hb;rename_i len el id off hu;have he:P.elem t=el:=by simp[Program.elem,hu]
       have hlen:P.arrayLen t=len:=by simp[Program.arrayLen,hu]
       split at hb;rename_i n;split at hb;rename_i hc;simp only[ah,aA]at hb;obtain⟨rfl,rfl⟩:=hb;simp only[ai.af,IE.af];rw[run_indexAt_array w' t _ k n (by rw[he,hlen];exact hu),he,hlen,if_pos ⟨hc.1,hc.2.1⟩];rw[gk hc.2.2.2];simp only[eP,jH];cases hb;rename_i cV;split at hb;rename_i hc;simp only[ah,aA]at hb;obtain⟨rfl,rfl⟩:=hb;have h0:=cf (hn _ (aU ..));have h1:=fu (hn _ (bn _ (aU ..)));simp only[IE.af]at h0 h1;simp only[ai.af];rw[run_indexAt_array w' t _ k _ (by rw[he,hlen];exact hu),he,hlen,if_pos ⟨h0,h1⟩];rw[gk hc.2];simp only[eP,jH];cases hb;rename_i len el row sz r j hu;have he:P.elem t=el:=by simp[Program.elem,hu]
       have hlen:P.arrayLen t=len:=by simp[Program.arrayLen,hu]
       split at hb;rename_i rq hrq;split at hb;rename_i hc;obtain⟨rfl,rfl,Vo,hc4,hc5,hc6,hc7⟩:=hc;simp only[ah,aA]at hb;obtain⟨rfl,rfl⟩:=hb;obtain⟨bq,rfl⟩:=aZ hrq;have h0:=cf (hn _ (aU ..));have h1:=fu (hn _ (bn _ (aU ..)));have h2:=fu (hn _ (bn _ (bn _ (aU ..))));simp only[IE.af]at h0 h1 h2;obtain⟨ad,cap,jN,_⟩:=jI (hm.row rq bq (BE.cW hc7 hG)) h0 h2;simp only[ai.af,IE.af,jN];rw[run_indexAt_array w' t _ k _ (by rw[he,hlen];exact hu),he,hlen,if_pos ⟨h0,h1⟩];rw[gk hc5];simp only[eP,iz,hc4,Int.toNat_zero,Nat.zero_mul,gK,iM];split at hb;rename_i n;split at hb;rename_i rr DU;split at hb;rename_i hc;simp only[ah,aA]at hb;obtain⟨rfl,rfl⟩:=hb;simp only[ah]at DU;subst DU;obtain⟨bq,rfl⟩:=aZ hrq;have h0:=cf (hn _ (aU ..));have h1:=fu (hn _ (bn _ (aU ..)));simp only[IE.af]at h0 h1;obtain⟨ad,cap,jN,_⟩:=jI (hm.row rq bq (BE.cW hc.2.2.2.2 hG)) h0 h1;simp only[ai.af,IE.af,jN];rw[run_indexAt_array w' t _ k n (by rw[he,hlen];exact hu),he,hlen,if_pos ⟨hc.1,hc.2.1⟩];rw[gk hc.2.2.2.1];simp only[eP,iz,Nat.add_assoc];cases hb;cases hb;cases hb;cases hb
       . rename_i el row hu;have he:P.elem t=el:=by simp[Program.elem,hu]
         split at hb;rename_i r hr;split at hb;rename_i hc;simp only[ao,aM]at hc;simp only[ah,aA]at hb;obtain⟨rfl,rfl⟩:=hb;obtain⟨bq,rfl⟩:=aZ hr;have h0:=cf (hn _ (aU ..));have h1:=fu (hn _ (bn _ (aU ..)));simp only[IE.af]at h0 h1;have bl:=hm.row r bq (BE.cW hc.1 hG);obtain⟨ad,cap,jN,_⟩:=jI bl h0 h1;simp only[ai.af,IE.af,Ph.val,jN];rw[run_indexAt_slice w' t ad _ cap k _ (by rw[he];exact hu),he,if_pos ⟨h0,h1⟩];rw[cm (by rw[hc.2];exact bl.1),hc.2];simp only[eP,iM];cases hb;split at hb
         . rename_i r hr;split at hb
           . rename_i hc;simp only[ao,aM]at hc;simp only[ah,aA]at hb;obtain⟨rfl,rfl⟩:=hb;obtain⟨bq,rfl⟩:=dp hr;have h0:=cf (hn _ (aU ..));have h1:=fu (hn _ (bn _ (aU ..)));simp only[IE.af]at h0 h1;obtain⟨⟨base,cap,jN,_,ma⟩,kJ⟩:=hN r bq (BE.cW hc.1 hG);cases base with
             |none=>have:=(ma rfl).1;omega
             |some ad=>
             have EZ:ph.v r.id=(some ad,(ae r.lv).list.length,cap):=by
               simp only[Ph.val,Value.slice.injEq]at jN;exact Prod.ext jN.1 (Prod.ext jN.2.1 jN.2.2)
             simp only[ai.af,IE.af,Ph.val,EZ];rw[run_indexAt_slice w' t ad _ cap k _ (by rw[he];exact hu),he,if_pos ⟨h0,h1⟩];rw[cm (by rw[hc.2];exact kJ),hc.2];simp only[eP,iM]
           cases hb
         cases hb
       rename_i el row sz lo n hu;split at hb;rename_i r hr;split at hb;rename_i hc;simp only[ao,aM]at hc;simp only[ah,aA]at hb;obtain⟨rfl,rfl⟩:=hb;obtain⟨bq,rfl⟩:=aZ hr;have h0:=cf (hn _ (aU ..));have h1:=fu (hn _ (bn _ (aU ..)));have h2:=cf (hn _ (bn _ (bn _ (aU ..))));have h3:=cf (hn _ (bn _ (bn _ (bn _ (aU ..)))));simp only[IE.af]at h0 h1 h2 h3;exact PE (hm.row r bq (BE.cW hc.1.1 hG)) hu hc.1.2 hc.2 h2 h3 h0 h1;cases hb;cases hb;rename_i el row bs hu;split at hb;rename_i r hr;split at hb;rename_i hc;simp only[ao,aM]at hc;split at hb;rename_i m;split at hb;rename_i uO;simp only[bH,aA]at hb;obtain⟨b,_,rfl,rfl⟩:=hb;obtain⟨bq,rfl⟩:=aZ hr;have h1:=fu (hn _ (aU ..));simp only[IE.af]at h1;exact PF (hm.row r bq (BE.cW hc.1.1 hG)) hu hc.1.2 hc.2 uO h1;cases hb;cases hb;cases hb;cases hb;rename_i el id n sz hu;split at hb;rename_i hc;simp only[ao,aM]at hc;split at hb;rename_i m;split at hb;rename_i uO;simp only[ah,aA]at hb;obtain⟨rfl,rfl⟩:=hb;simp only[ai.af,IE.af];rw[qC hu uO.1 uO.2 hc.2,hc.1,jH,gK];cases hb;simp only[ah,aA]at hb;obtain⟨rfl,rfl⟩:=hb;have h0:=cf (hn _ (aU ..));have h1:=fu (hn _ (bn _ (aU ..)));simp only[IE.af]at h0 h1;simp only[ai.af];rw[qC hu h0 h1 hc.2,hc.1,jH];cases hb;cases hb
     rw[this];rfl
   cases h
 ·
   rename_i t x i heq;split at h;rename_i cs k n len el hx hi hu;split at h;rename_i hc;simp only[bH,aA]at h;obtain⟨v,hv,rfl,rfl⟩:=h;obtain⟨qA,_⟩:=nS hv;simp only[execOp,heq,cR hx hG ht,aC hi hG ht,V1.af,ai.af,IE.af,Instr.index,asIntOf,eU,fX,eP,run_underlying hu];simp only[hc,and_self,if_true,eU,cm qA.2.1,eP,yB hv,fX,SV.af];cases h;rename_i cs k xi len el cV hx hi hu;split at h;rename_i hc;simp only[ao,aM,nQ]at hc;obtain⟨⟨⟨ada,hna⟩,oR⟩,hlen⟩:=hc;simp only[bH,aA]at h;obtain⟨l,hl,rfl,rfl⟩:=h;have h0:=cf (hn _ (aU ..));have h1:=fu (hn _ (bn _ (aU ..)));simp only[IE.af]at h0 h1;obtain⟨l',xl,he⟩:=yC (ae:=ae) (ph:=ph) hl h0 h1;rw[Nat.mul_one,gK]at xl;simp only[execOp,heq,cR hx hG ht,aC hi hG ht,V1.af,ai.af,IE.af,Instr.index,asIntOf,eU,fX,eP,run_underlying hu];have hp:td P el cs (xi.af ae).toNat=some (.one l'):=by
     simp[td,ada,oR,hna,xl]
   have:=yB (ae:=ae) (ph:=ph) (w:=w') hp;simp only[h0,h1,and_self,if_true,eU,cm (show 0<P.cellsOf el by omega),eP,oR,Nat.mul_one,this,fX,SV.af,V1.af,he];cases h;rename_i bs k n hx hi hu;split at h;rename_i iI;simp only[bH,aA]at h;obtain⟨b,hb,rfl,rfl⟩:=h;simp only[execOp,heq,cR hx hG ht,aC hi hG ht,V1.af,ai.af,IE.af,Instr.index,asIntOf,eU,fX,eP,run_underlying hu];simp only[iI,if_true,MY,hb,fX,eP,SV.af,V1.af,ai.af,IE.af];cases h;cases h
 ·
   rename_i x heq;split at h;rename_i id off hx;simp only[ah,aA]at h;obtain⟨rfl,rfl⟩:=h;simp only[execOp,heq,aC hx hG ht,ai.af,fX,SV.af,V1.af];rename_i row sz i j hx;split at h;rename_i r hr;split at h;rename_i hc;simp only[ah,aA]at h;obtain⟨rfl,rfl⟩:=h;have h1:=fu (hn _ (aU ..));simp only[IE.af]at h1;obtain⟨bq,rfl⟩:=aZ hr;obtain⟨ad,cap,jN,_⟩:=jI (hm.row r bq (BE.cW hc hG)) (i:=0) (Int.le_refl _) h1;simp only[execOp,heq,aC hx hG ht,ai.af,jN,fX,SV.af,V1.af];cases h;cases h;cases h
 ·
   rename_i g first captured heq
   split at h;rename_i hf;simp only[bH,aA]at h;obtain⟨dF,hc,rfl,rfl⟩:=h;have e:=E2 hG ht hc;have e1:first.map a.eval = #[]:=by apply kM;simp[hf]
   have e2:captured.map a.eval=(dF.map (mG ph)).toArray:=by apply kM;simpa using e
   simp only[execOp,heq,Instr.makeFunc,e1,e2,eU,fX,eP,SV.af,V1.af,ai.af];rename_i x hf;split at h;rename_i Px;have e1:first.map a.eval = #[a.eval x]:=by apply kM;simp[hf]
   have e2:captured.map a.eval = #[]:=by apply kM;simp[Px]
   split at h;rename_i l hl;simp only[bH,aA]at h;obtain⟨l0,hd,rfl,rfl⟩:=h;have e3:=cR hl hG ht;rw[ai.down_up hd]at e3;simp only[V1.af]at e3;rw[dx.ET]at e3;simp only[execOp,heq,Instr.makeFunc,e1,e2,e3,eU,fX,eP,SV.af,V1.af,ai.af];simp;rename_i ls hl;simp only[bH,aA]at h;obtain⟨l0,hd,rfl,rfl⟩:=h;have e3:=cR hl hG ht;simp only[V1.af,MZ (ae:=ae) (ph:=ph) hd]at e3;simp only[execOp,heq,Instr.makeFunc,e1,e2,e3,eU,fX,eP,SV.af,V1.af,ai.af];simp;cases h;cases h;cases h
 ·
   rename_i t x low high cap heq;split at h;rename_i el row hu hx;split at h;rename_i r hr;split at h;rename_i hc;simp only[ao,aM]at hc;obtain⟨⟨⟨hg,oR⟩,hre⟩,amQ⟩:=hc;obtain⟨bq,rfl⟩:=aZ hr;have bl:=hm.row r bq (BE.cW hg hG);obtain⟨base,cp,hv,⟨_,hlc⟩,ma,_⟩:=bl.reads;have xd:ph.v r.id=(base,(ae r.lv).list.length,cp):=by
     simp only[Ph.val,Value.slice.injEq]at hv;exact Prod.ext hv.1 (Prod.ext hv.2.1 hv.2.2)
   have kJ:0<P.cellsOf el:=by rw[oR];exact bl.1
   split at h;rename_i l;split at h;rename_i kl lo tm;simp only[ah,aA]at h;obtain⟨rfl,rfl⟩:=h;have h0:=cf (hn _ (aU ..));have h1:=cf (hn _ (bn _ (aU ..)));simp only[IE.af]at h0 h1;simp only[execOp,heq,aC hx hG ht,tn,Option.map_none,aC tm hG ht,SV.af,V1.af,eU];have:=DR (P:=P) (w:=w') (t:=t) (e:=el) hu (base:=base) (len:=(ae r.lv).list.length) (cap:=cp) (lo:=lo.af ae) (hi:=((ae r.lv).list.length:Int)) (kl:=kl) none rfl (by simp) h0 h1 (by omega) kJ;simp only[ai.af,Ph.val,xd]at this ⊢;rw[this];simp only[eP,fX,IE.cz,IE.af,oR];cases h;rename_i l hh;split at h;rename_i kl lo kh hi tm Ld;simp only[ah,aA]at h;obtain⟨rfl,rfl⟩:=h;have h0:=cf (hn _ (aU ..));have h1:=cf (hn _ (bn _ (aU ..)));have h2:=cf (hn _ (bn _ (bn _ (aU ..))));simp only[IE.af]at h0 h1 h2;simp only[execOp,heq,aC hx hG ht,tn,Option.map_none,aC tm hG ht,aC Ld hG ht,SV.af,V1.af,eU];have:=DR (P:=P) (w:=w') (t:=t) (e:=el) hu (base:=base) (len:=(ae r.lv).list.length) (cap:=cp) (lo:=lo.af ae) (hi:=hi.af ae) (kl:=kl) (some (.int kh (hi.af ae))) rfl (by intro v hv;simp at hv;exact⟨kh,hv.symm⟩) h0 h1 (by omega) kJ;simp only[ai.af,Ph.val,xd]at this ⊢;rw[this];simp only[eP,fX,IE.cz,IE.af,oR];cases h;rename_i hh mm;split at h;rename_i kh hi km mx Ld Vp;simp only[ah,aA]at h;obtain⟨rfl,rfl⟩:=h;have h0:=hn _ (aU ..);have h1:=hn _ (bn _ (aU ..));rw[BE.cz]at h0 h1;have h0:hi.af ae=((ae r.lv).list.length:Int):=mW h0;have h1:mx.af ae=((ae r.lv).list.length:Int):=mW h1;simp only[execOp,heq,aC hx hG ht,tn,Option.map_none,aC Ld hG ht,aC Vp hG ht,SV.af,V1.af,eU];have:=Jg (P:=P) (w:=w') (t:=t) (e:=el) hu (base:=base) (len:=(ae r.lv).list.length) (cap:=cp) (kh:=kh) (km:=km) hlc kJ;simp only[ai.af,Ph.val,xd,h0,h1]at this ⊢;rw[this];simp only[eP,fX];cases h;cases h;cases h;cases h;rename_i bs hu hx;split at h;rename_i l;split at h;rename_i kl lo tm;split at h;rename_i hc;simp only[ah,aA]at h;obtain⟨rfl,rfl⟩:=h;simp only[execOp,heq,aC hx hG ht,tn,Option.map_none,aC tm hG ht,SV.af,V1.af,ai.af,IE.af,eU];rw[G8 hu hc.1 hc.2];rfl;cases h;cases h;rename_i hh;split at h;rename_i kh hi Ld;split at h;rename_i hc;simp only[ah,aA]at h;obtain⟨rfl,rfl⟩:=h;simp only[execOp,heq,aC hx hG ht,tn,Option.map_none,aC Ld hG ht,SV.af,V1.af,ai.af,IE.af,eU];rw[M0 hu hc.1 hc.2];rfl;cases h;cases h;cases h;cases h
 ·
   rename_i t x heq;split at h;rename_i len el hu;split at h;rename_i kJ;split at h;rename_i row hx;split at h;rename_i r hr;split at h;rename_i hc;simp only[ao,aM]at hc;simp only[ah,aA]at h;obtain⟨rfl,rfl⟩:=h;obtain⟨bq,rfl⟩:=aZ hr;have h0:=cf (hn _ (aU ..));simp only[IE.af]at h0;obtain⟨ad,cp,jN,_⟩:=jI (hm.row r bq (BE.cW hc.1 hG)) (i:=0) (Int.le_refl _) (by omega);simp only[execOp,heq,aC hx hG ht,ai.af,Ph.val,jN,eU,run_arrayAt w' t el len _ _ _ hu (show len<=(ae r.lv).list.length by omega),eP,fX,SV.af,V1.af,IE.af];simp[Addr.add_zero'];cases h;cases h;rename_i row lo n hx;split at h;rename_i r hr;split at h;rename_i hc;simp only[ao,aM]at hc;simp only[ah,aA]at h;obtain⟨rfl,rfl⟩:=h;obtain⟨bq,rfl⟩:=aZ hr;have h0:=cf (hn _ (aU ..));have h1:=cf (hn _ (bn _ (aU ..)));have h2:=cf (hn _ (bn _ (bn _ (aU ..))));simp only[IE.af]at h0 h1 h2;obtain⟨ad,cp,jN,hd⟩:=PD (sz:=1) (hm.row r bq (BE.cW hc.1 hG)) h1 (by omega) h2;simp only[execOp,heq,aC hx hG ht,hd,eU,run_arrayAt w' t el len _ _ _ hu (show len<=(n.af ae).toNat by omega),eP,fX,SV.af,V1.af];simp only[ai.af,jN,iM];cases h;cases h;cases h;cases h;cases h
 ·
   rename_i x n heq;split at h;rename_i xs hx;simp only[bH,aA]at h;obtain⟨v,hv,rfl,rfl⟩:=h;simp only[execOp,heq,tc hx hG ht,SV.af,Instr.extract,List.getElem?_toArray,gL,hv,tn,eU,fX,eP];cases h
 ·
   rename_i t parts heq;split at h;rename_i z place ps hz hp GQ;simp only[bH,aA]at h;obtain⟨cs,iW,rfl,rfl⟩:=h;have e:=qa hG ht GQ;have:=run_build (ae:=ae) (ph:=ph) (w:=w') (parts:=parts.map fun(i,x)=>(i,a.eval x)) hz hp iW (by rw[Array.toList_map];exact e);simp only[execOp,heq,eU,this,eP,fX,SV.af,V1.af];cases h
 ·
   rename_i args PG heq;split at h;rename_i x el fp MX;have ZN:∃t,PG[0]?=some t/\P.underlying t=some (.slice el):=by
     simp only[Option.bind_eq_some_iff]at MX;exact MX
   obtain⟨t,ht0,htu⟩:=ZN;have he:P.elem t=el:=by simp[Program.elem,htu]
   have cP:∀b n c,(Builtin.len_ PG o.type #[.slice b n c]).run P w' = .ok (goInt n) w':=fun b n c=>by
     simp[Builtin.len_,ht0,run_underlying htu]
   split at h;rename_i row bl;split at h;rename_i r hr;split at h;rename_i hg;simp only[ah,aA]at h;obtain⟨rfl,rfl⟩:=h;obtain⟨bq,rfl⟩:=aZ hr;obtain⟨base,cap,hv,_⟩:=(hm.row r bq (BE.cW hg hG)).reads;refine eL heq (fun _ _ _ _=>rfl) ?_;simp only[rH fp,aC bl hG ht,ai.af,hv,cP];rfl;cases h;split at h;rename_i r hr;split at h;rename_i hg;simp only[ah,aA]at h;obtain⟨rfl,rfl⟩:=h;obtain⟨bq,rfl⟩:=dp hr;obtain⟨⟨base,cap,hv,_⟩,_⟩:=hN r bq (BE.cW hg hG);refine eL heq (fun _ _ _ _=>rfl) ?_;simp only[rH fp,aC bl hG ht,ai.af,hv,cP];rfl;cases h;cases h;rename_i wa;simp only[ah,aA]at h;obtain⟨rfl,rfl⟩:=h;refine eL heq (fun _ _ _ _=>rfl) ?_;simp only[rH fp,aC wa hG ht,ai.af,cP];rfl;rename_i row szz lo n bl;split at h;split at h;simp only[ah,aA]at h;obtain⟨rfl,rfl⟩:=h;have h0:=cf (hn _ (aU ..));simp only[IE.af]at h0;refine eL heq (fun _ _ _ _=>rfl) ?_;simp only[rH fp,aC bl hG ht,ai.af,cP,SV.af,V1.af,goInt];rw[Int.toNat_of_nonneg h0];cases h;cases h;rename_i id n szz bl;simp only[ah,aA]at h;obtain⟨rfl,rfl⟩:=h;refine eL heq (fun _ _ _ _=>rfl) ?_;simp only[rH fp,aC bl hG ht,ai.af,cP];rfl;rename_i row bs bl;split at h;rename_i r hr;split at h;rename_i hg;simp only[ah,aA]at h;obtain⟨rfl,rfl⟩:=h;have h0:=hn _ (aU ..);rw[BE.cz]at h0;have h0:((ae r.lv).list.length:Int)=(bs.length:Int):=mW h0;obtain⟨bq,rfl⟩:=aZ hr;obtain⟨base,cap,hv,_⟩:=(hm.row r bq (BE.cW hg hG)).reads;refine eL heq (fun _ _ _ _=>rfl) ?_;simp only[rH fp,aC bl hG ht,ai.af,hv,cP,SV.af,V1.af,IE.af,goInt,h0];cases h;cases h;cases h;rename_i x fp MX;have ZN:∃t,PG[0]?=some t/\P.underlying t=some .string:=by
     simp only[Option.bind_eq_some_iff]at MX;exact MX
   obtain⟨t,ht0,htu⟩:=ZN;split at h;rename_i bs hx;simp only[ah,aA]at h;obtain⟨rfl,rfl⟩:=h;refine eL heq (fun _ _ _ _=>rfl) ?_;simp[rH fp,aC hx hG ht,ai.af,Builtin.len_,ht0,run_underlying htu,vW,SV.af,V1.af,IE.af,goInt];cases h;cases h
 ·
   rename_i args PG heq;split at h;rename_i x y fp;split at h;rename_i k e1 k' e2 hx hy;split at h;rename_i hk;subst hk;simp only[ah,aA]at h;obtain⟨rfl,rfl⟩:=h;refine eL heq (fun _ _ _ _=>rfl) ?_;simp only[K9 fp,aC hx hG ht,aC hy hG ht,ai.af,run_max_int2,ZK];simp[SV.af,V1.af,ai.af,IE.cz,IE.af];cases h;cases h;rename_i x y z fp;split at h;rename_i k e1 k' e2 k'' e3 hx hy hz;split at h;rename_i hk;obtain⟨rfl,rfl⟩:=hk;simp only[ah,aA]at h;obtain⟨rfl,rfl⟩:=h;refine eL heq (fun _ _ _ _=>rfl) ?_;simp only[DT fp,aC hx hG ht,aC hy hG ht,aC hz hG ht,ai.af];simp[Builtin.max_,Builtin.max2,List.foldlM,SV.af,V1.af,ai.af,IE.cz,IE.af];omega;cases h;cases h;cases h
 ·
   rename_i args PG heq;split at h;rename_i x y fp;split at h;rename_i k e1 k' e2 hx hy;split at h;rename_i hk;subst hk;simp only[ah,aA]at h;obtain⟨rfl,rfl⟩:=h;refine eL heq (fun _ _ _ _=>rfl) ?_;simp only[K9 fp,aC hx hG ht,aC hy hG ht,ai.af,run_min_int2,ZL];simp[SV.af,V1.af,ai.af,IE.cz,IE.af];cases h;cases h;rename_i x y z fp;split at h;rename_i k e1 k' e2 k'' e3 hx hy hz;split at h;rename_i hk;obtain⟨rfl,rfl⟩:=hk;simp only[ah,aA]at h;obtain⟨rfl,rfl⟩:=h;refine eL heq (fun _ _ _ _=>rfl) ?_;simp only[DT fp,aC hx hG ht,aC hy hG ht,aC hz hG ht,ai.af];simp[Builtin.min_,Builtin.min2,List.foldlM,SV.af,V1.af,ai.af,IE.cz,IE.af];omega;cases h;cases h;cases h
 cases h
end
end Go.Sx
