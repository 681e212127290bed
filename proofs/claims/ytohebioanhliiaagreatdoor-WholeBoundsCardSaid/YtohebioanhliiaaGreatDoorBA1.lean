/- The symbolic executor: definitions and what operations compute. -/
import Derived.WalkKit
import Derived.KernelRfl
import Derived.ChangeKeysEq
import Derived.Lib.SliceRun
import Derived.Stop.IfaceNil
import Derived.Laws.Cover3
set_option linter.unusedVariables false
set_option linter.unusedSimpArgs false
namespace Go.Sx
section
theorem af{α:Type _}(a b:α):(some a=some b)=(a=b):=Option.some.injEq a b
theorem ah(a b:Bool):((a&&b)=true)=(a=true/\b=true):=Bool.and_eq_true a b
theorem fU(a b:Bool):((a||b)=true)=(a=true\/b=true):=Bool.or_eq_true a b
theorem aD{p:Prop} [Decidable p]:(decide p=true)=p:=decide_eq_true_eq
theorem ao{α β:Type _}(a:α)(b:β)(c:α)(d:β):((a,b)=(c,d))=(a=c/\b=d):=Prod.mk.injEq a b c d
theorem aM{α:Type _}{a:α}{l:List α}:a∈a::l:=List.mem_cons_self
theorem aZ{α:Type _}(y:α){a:α}{l:List α}(h:a∈l):a∈y::l:=List.mem_cons_of_mem y h
theorem bl{α β:Type _}{b:α}{x:Option β}{f:β->α}:Option.map f x=some b↔∃a,x=some a/\f a=b:=Option.map_eq_some_iff
theorem eI{α:Type _}{l:List α}{i:Nat}{a:α}:l.getD i a=l[i]?.getD a:=List.getD_eq_getElem?_getD
theorem cC{α:Type _}{i:Nat}{a:α}{l:List α}:l[i]?=some a↔∃h:i<l.length,l[i]=a:=List.getElem?_eq_some_iff
theorem fV{α:Type _}{l:List α}{i:Nat}(h:i<l.length):l[i]?=some l[i]:=List.getElem?_eq_getElem h
theorem bh{α:Type _}{b:α}{l:List α}{a:α}:a∈b::l↔a=b\/a∈l:=List.mem_cons
theorem dG{α:Type _}{a b:List α}:(a++b).length=a.length+b.length:=List.length_append
abbrev dc:=@Result.andThen_ok
abbrev dz:=@Sem.run_bind
abbrev eU:=@Sem.run_pure
abbrev qt:=@of_decide_eq_true
abbrev T3:=@of_decide_eq_false
abbrev DG:=@decide_eq_false_iff_not
abbrev k7:=@List.all_eq_true
abbrev jt:=@List.map_cons
abbrev sO:=@List.map_congr_left
abbrev xe:=@Int.toNat_natCast
abbrev jo:=@List.getElem?_cons_zero
abbrev xO:=@List.getElem?_cons_succ
abbrev gh:=@List.not_mem_nil
abbrev nG:=@Int.mul_le_mul_of_nonneg_left
abbrev tk:=@Int.mul_le_mul_of_nonneg_right
abbrev nT:=@List.getElem?_append_left
abbrev qv:=@List.getElem?_append_right
abbrev iC:=@Bool.false_eq_true
abbrev qd:=@Array.getElem?_eq_some_iff
abbrev gJ:=@List.getElem?_map
abbrev mM:=@decide_eq_true
abbrev oV:=@List.take_of_length_le
abbrev ue:=@List.drop_of_length_le
abbrev iK:=@List.mem_filter
abbrev mG:=@Bool.not_eq_true'
abbrev qi:=@List.mem_of_getElem?
abbrev od:=@List.map_append
abbrev tW:=@List.getElem?_eq_none
abbrev pf:=@Nat.lt_or_ge
abbrev kG:=@List.nil_append
abbrev nU:=@List.cons_append
abbrev kT:=@List.length_map
abbrev Ae:=@Bool.or_eq_false_iff
abbrev Vy:=@Bool.and_eq_false_iff
abbrev vn:=@Nat.mul_le_mul_right
abbrev DY:=@List.take_append_of_le_length
abbrev FN:=@List.drop_append_of_le_length
abbrev BV:=@List.eq_nil_of_length_eq_zero
abbrev lU:=@List.mem_singleton
abbrev mJ:=@List.map_nil
abbrev kE:=@List.mem_map
abbrev jv:=@Array.ext'
abbrev sI:=@List.length_take
abbrev oQ:=@List.mem_append
abbrev D8:=@Int.tdiv_eq_ediv_of_nonneg
abbrev D9:=@Int.emod_lt_of_pos
abbrev B2:=@List.mem_of_find?_eq_some
abbrev vy:=@Int.ediv_nonneg
abbrev qR:=@Int.mul_nonneg
abbrev yb:=@List.mem_append_left
abbrev Ci:=@List.mem_append_right
abbrev ui:=@List.mem_range
abbrev tY:=@List.length_cons
abbrev xW:=@List.getElem?_take
abbrev vz:=@Nat.eq_of_beq_eq_true
abbrev BZ:=@List.take_append_drop
abbrev D':=@Int.ediv_lt_of_lt_mul
abbrev vA:=@List.mem_filterMap
abbrev DS:=@List.getElem?_replicate
abbrev B9:=@Nat.lt_of_lt_of_le
abbrev FC:=@Int.emod_nonneg
abbrev xk:=@List.append_nil
abbrev aaq:=@List.append_assoc
abbrev jS:=@Nat.le_trans
abbrev fP:=@Nat.zero_add
abbrev eZ:=@Nat.le_refl
abbrev gA:=@Nat.add_zero
abbrev mc:=@Int.mul_comm
abbrev vh:=@List.foldl_cons
abbrev xn:=@Bool.eq_false_iff
abbrev qS:=@Nat.le_add_right
abbrev j7:=@Nat.add_mul
abbrev BY:=@List.toList_toArray
abbrev xT:=@Option.isSome_iff_exists
abbrev sG:=@Option.map_some
abbrev xo:=@Int.mul_le_mul
abbrev kI:=@List.any_eq_true
inductive DV where
 |i (n:Int)
 |b (x:Bool)
 |l (xs:List (List Int))
 deriving Inhabited
def DV.int:DV->Int
 |.i n=>n
 |_=>0
def DV.bool:DV->Bool
 |.b x=>x
 |_=>false
def DV.list:DV->List (List Int)
 |.l xs=>xs
 |_=>[]
abbrev aA:=Nat->DV
def aA.set(U:aA)(k:Nat)(d:DV):aA:=fun j=>if j=k then d else U j
def aA.ay(U:aA)(k:Nat):List DV->aA
 | []=>U
 |d::ds=>aA.ay (aA.set U k d) (k+1) ds
inductive IE where
 |v (k:Nat)
 |c (n:Int)
 |add (a b:IE)
 |sub (a b:IE)
 |mul (a b:IE)
 |tdiv (a b:IE)
 |tmod (a b:IE)
 |ediv (a:IE) (n:Nat)
 |emod (a:IE) (n:Nat)
 |shl (a b:IE)
 |shr (a b:IE)
 |wrap (k:IntKind) (a:IE)
 |max (a b:IE)
 |min (a b:IE)
 |bits (op:BinOp) (k:IntKind) (a b:IE)
 |len (k:Nat)
 |get (k:Nat) (i:IE) (j:Nat)
 |lh (i:IE) (n:Nat) (a b:IE)
 deriving DecidableEq,Repr,Inhabited
def cellAt(xs:List (List Int))(i:Int)(j:Nat):Int:=(xs.getD i.toNat []).getD j 0
def IE.ae(U:aA):IE->Int
 |.v k=>(U k).int
 |.c n=>n
 |.add a b=>a.ae U+b.ae U
 |.sub a b=>a.ae U-b.ae U
 |.mul a b=>a.ae U*b.ae U
 |.tdiv a b=>(a.ae U).tdiv (b.ae U)
 |.tmod a b=>(a.ae U).tmod (b.ae U)
 |.ediv a n=>a.ae U/(n:Int)
 |.emod a n=>a.ae U%(n:Int)
 |.shl a b=>a.ae U*2 ^ (b.ae U).toNat
 |.shr a b=>a.ae U/2 ^ (b.ae U).toNat
 |.wrap k a=>k.wrap (a.ae U)
 |.max a b=>Max.max (a.ae U) (b.ae U)
 |.min a b=>Min.min (a.ae U) (b.ae U)
 |.bits op k a b=>Go.bits op k (a.ae U) (b.ae U)
 |.len k=>((U k).list.length:Int)
 |.get k i j=>cellAt (U k).list (i.ae U) j
 |.lh i n a b=>if i.ae U=(n:Int)then a.ae U else b.ae U
inductive BE where
 |v (k:Nat)
 |c (x:Bool)
 |lt (a b:IE)
 |le (a b:IE)
 |eq (a b:IE)
 |not (a:BE)
 |and (a b:BE)
 |or (a b:BE)
 |iff (a b:BE)
 |qu (a:IE)
 deriving DecidableEq,Repr,Inhabited
def BE.ae(U:aA):BE->Bool
 |.v k=>(U k).bool
 |.c x=>x
 |.lt a b=>decide (a.ae U<b.ae U)
 |.le a b=>decide (a.ae U<=b.ae U)
 |.eq a b=>decide (a.ae U=b.ae U)
 |.not a=>!(a.ae U)
 |.and a b=>a.ae U&&b.ae U
 |.or a b=>a.ae U||b.ae U
 |.iff a b=>a.ae U==b.ae U
 |.qu a=>decide (a.ae U≠0)
def IE.mk(e:IE):IE:=
 match e with
 |.add (.c a) (.c b)=>.c (a+b)
 |.add a (.c 0)=>a
 |.add (.c 0) a=>a
 |.sub (.c a) (.c b)=>.c (a-b)
 |.sub a (.c 0)=>a
 |.mul (.c a) (.c b)=>.c (a*b)
 |.mul (.c 1) a=>a
 |.mul a (.c 1)=>a
 |.tdiv (.c a) (.c b)=>.c (a.tdiv b)
 |.tmod (.c a) (.c b)=>.c (a.tmod b)
 |.ediv (.c a) n=>.c (a/(n:Int))
 |.emod (.c a) n=>.c (a%(n:Int))
 |.shl (.c a) (.c b)=>.c (a*2 ^ b.toNat)
 |.shr (.c a) (.c b)=>.c (a/2 ^ b.toNat)
 |.wrap k (.c a)=>.c (k.wrap a)
 |.max (.c a) (.c b)=>.c (Max.max a b)
 |.min (.c a) (.c b)=>.c (Min.min a b)
 |.bits op k (.c a) (.c b)=>.c (Go.bits op k a b)
 |.lh (.c i) n a b=>if i=(n:Int)then a else b
 |e=>e
def BE.mk(e:BE):BE:=
 match e with
 |.lt (.c a) (.c b)=>.c (decide (a<b))
 |.le (.c a) (.c b)=>.c (decide (a<=b))
 |.eq (.c a) (.c b)=>.c (decide (a=b))
 |.not (.c a)=>.c (!a)
 |.not (.not a)=>a
 |.and (.c true) a=>a
 |.and (.c false) _=>.c false
 |.and a (.c true)=>a
 |.and _ (.c false)=>.c false
 |.or (.c false) a=>a
 |.or (.c true) _=>.c true
 |.or a (.c false)=>a
 |.or _ (.c true)=>.c true
 |.iff (.c true) a=>a
 |.iff a (.c true)=>a
 |.qu (.c a)=>.c (decide (a≠0))
 |e=>e
def BE.gZ(G g:BE):Bool:=
 decide (g = .c true)||decide (G=g)||(match G with
   |.and x y=>x.gZ g||y.gZ g
   |_=>false)
def BE.under(G n:BE):BE:=if G = .c true then n else .or (.not G) n
def inR(k:IntKind)(e:IE):BE:=
 match e with
 |.c n=>.c (decide (k.min<=n)&&decide (n<=k.max))
 |e=>.and (.le (.c k.min) e) (.le e (.c k.max))
inductive CK where
 |i (k:IntKind)
 |b
 |f
 deriving DecidableEq,Repr,Inhabited
inductive cO where
 |i (k:IntKind) (e:IE)
 |b (e:BE)
 |s (row:Nat)
 |jR
 deriving DecidableEq,Repr,Inhabited
inductive ag where
 |i (k:IntKind) (e:IE)
 |b (e:BE)
 |p (lP off:Nat)
 |ep (row sz:Nat) (i:IE) (j:Nat)
 |pi (lP off sz n:Nat) (x:IE)
 |s (row:Nat)
 |jR
 |Rw
 |f (f:FuncId)
 |fn (g:FuncId) (cS:List (Bool×Nat))
 |fl (e:IE)
 |str (bs:List UInt8)
 |Rx
 |FB
 |bf (g:FuncId) (agg:Bool) (ls:List cO)
 |vw (row sz:Nat) (lo n:IE)
 |cs (row:Nat)
 |bs (lP n sz:Nat)
 |kb (row:Nat) (bytes:List UInt8)
 |ab (row i:Nat) (b:UInt8)
 deriving DecidableEq,Repr,Inhabited
def cO.up:cO->ag
 |.i k e=>.i k e
 |.b e=>.b e
 |.s r=>.s r
 |.jR=>.jR
def ag.down:ag->Option cO
 |.i k e=>some (.i k e)
 |.b e=>some (.b e)
 |.s r=>some (.s r)
 |.jR=>some .jR
 |_=>none
inductive V1 where
 |one (l:ag)
 |agg (ls:List ag)
 deriving DecidableEq,Repr,Inhabited
inductive SV where
 |v (x:V1)
 |Fu (xs:List V1)
 deriving DecidableEq,Repr,Inhabited
structure Ph where
 r:Nat->Nat
 v:Nat->Option Addr×Nat×Nat
 z:Nat->Prop
def Ph.nE(ph:Ph)(k n:Nat):Ph:={ph with r:=fun j=>if j=k then n else ph.r j}
def Ph.uc(ph:Ph)(k:Nat)(x:Option Addr×Nat×Nat):Ph:={ph with v:=fun j=>if j=k then x else ph.v j}
def Ph.val(ph:Ph)(k:Nat):Value:=.slice (ph.v k).1 (ph.v k).2.1 (ph.v k).2.2
def cO.ae(U:aA)(ph:Ph):cO->Value
 |.i k e=>.int k (e.ae U)
 |.b e=>.bool (e.ae U)
 |.s row=>ph.val row
 |.jR=>.slice none 0 0
def kR(ph:Ph)(c:Bool×Nat):Value:=if c.1 then .pointer (ph.v c.2).1 else .pointer (some ⟨ph.r c.2,0,none⟩)
def ag.ae(U:aA)(ph:Ph):ag->Value
 |.i k e=>.int k (e.ae U)
 |.b e=>.bool (e.ae U)
 |.p id off=>.pointer (some ⟨ph.r id,off,none⟩)
 | .ep row sz x j=>match(ph.v row).1 with
   |some a=>.pointer (some (a.add ((x.ae U).toNat*sz+j)))
   |none=>.pointer none
 |.pi id off sz _ x=>.pointer (some ⟨ph.r id,off+(x.ae U).toNat*sz,none⟩)
 |.s row=>ph.val row
 |.jR=>.slice none 0 0
 |.Rw=>.pointer none
 |.f g=>.func (.func g) #[] #[]
 |.fn g cS=>.func (.func g) #[] (cS.map (kR ph)).toArray
 |.fl e=>.float .f64 (e.ae U).toNat
 |.str bytes=>.string ⟨bytes.toArray⟩
 |.Rx=>.nilFunc
 |.FB=>.nilIface
 |.bf g agg ls=>.func (.func g) #[if agg then .agg (ls.map (cO.ae U ph)).toArray else(ls.map (cO.ae U ph)).headD undef] #[]
 |.vw row sz lo n=>.slice (if(ph.v row).2.2=(lo.ae U).toNat then(ph.v row).1 else(ph.v row).1.map (·.add ((lo.ae U).toNat*sz))) (n.ae U).toNat ((ph.v row).2.2-(lo.ae U).toNat)
 |.cs row=>.slice (ph.v row).1 (ph.v row).2.1 (ph.v row).2.1
 |.bs id n _=>.slice (some ⟨ph.r id,0,none⟩) n n
 |.kb row _=>ph.val row
 | .ab row m _=>match(ph.v row).1 with
   |some a=>.pointer (some (a.add m))
   |none=>.pointer none
def V1.ae(U:aA)(ph:Ph):V1->Value
 |.one l=>l.ae U ph
 |.agg ls=>.agg (ls.map (ag.ae U ph)).toArray
def SV.ae(U:aA)(ph:Ph):SV->Value
 |.v x=>x.ae U ph
 |.Fu xs=>.tuple (xs.map (V1.ae U ph)).toArray
structure aN where
 g:BE
 sv:SV
 deriving DecidableEq,Repr,Inhabited
def aN.ae(U:aA)(ph:Ph)(s:aN):Value:=if s.g.ae U then s.sv.ae U ph else undef
structure gD where
 id:Nat
 ty:TypeId
 cells:List ag
 deriving DecidableEq,Repr,Inhabited
structure Row where
 id:Nat
 e:TypeId
 ks:List CK
 lv:Nat
 own:Bool
 g:BE
 deriving DecidableEq,Repr,Inhabited
inductive NK where
 |c (k:CK)
 |s (e:TypeId) (k:CK)
 deriving DecidableEq,Repr,Inhabited
structure df where
 id:Nat
 e:TypeId
 aH:List NK
 lv:Nat
 g:BE
 own:Bool
 deriving DecidableEq,Repr,Inhabited
structure St where
 tmps:List (Option aN)
 aR:List gD
 rows:List Row
 aV:List df:=[]
 next:Nat
 nD:List (Nat×Nat)
 deriving DecidableEq,Repr,Inhabited
def St.has(st:St)(k:Nat):Bool:=decide (k<st.next)||st.nD.any fun d=>decide (d.1<=k)&&decide (k<d.2)
def St.free(st:St)(a n:Nat):Bool:=decide (st.next<=a)&&st.nD.all fun d=>decide (a+n<=d.1)||decide (d.2<=a)
def vk(d:Nat×Nat):List (Nat×Nat)->List (Nat×Nat)
 | []=>[d]
 |x::xs=>if x.1<d.1 then d::x::xs else x::vk d xs
def St.bd(st:St)(a n:Nat):St:={st with nD:=vk (a,a+n) st.nD}
def IE.all(p:Nat->Bool):IE->Bool
 |.v k| .len k=>p k
 |.c _=>true
 |.add a b| .sub a b| .mul a b| .tdiv a b| .tmod a b| .shl a b| .shr a b| .max a b| .min a b| .bits _ _ a b=>a.all p&&b.all p
 |.ediv a _| .emod a _| .wrap _ a=>a.all p
 |.get k i _=>p k&&i.all p
 |.lh i _ a b=>i.all p&&(a.all p&&b.all p)
def BE.all(p:Nat->Bool):BE->Bool
 |.v k=>p k
 |.c _=>true
 |.lt a b| .le a b| .eq a b=>a.all p&&b.all p
 |.not a=>a.all p
 |.and a b| .or a b| .iff a b=>a.all p&&b.all p
 |.qu a=>a.all p
def cO.all(p:Nat->Bool):cO->Bool
 |.i _ e=>e.all p
 |.b e=>e.all p
 |.s row=>p row
 |.jR=>true
def ag.all(p:Nat->Bool):ag->Bool
 |.i _ e=>e.all p
 |.b e=>e.all p
 |.p id _=>p id
 |.ep row _ x _=>p row&&x.all p
 |.pi id _ _ _ x=>p id&&x.all p
 |.s row=>p row
 |.jR| .Rw| .f _=>true
 |.fn _ cS=>cS.all fun c=>p c.2
 |.fl e=>e.all p
 |.str _| .Rx| .FB=>true
 |.bf _ _ ls=>ls.all (cO.all p)
 |.vw row _ lo n=>p row&&(lo.all p&&n.all p)
 |.cs row=>p row
 |.bs id _ _=>p id
 |.kb row _=>p row
 |.ab row _ _=>p row
def a7(p:Nat->Bool):List ag->Bool
 | []=>true
 |l::ls=>l.all p&&a7 p ls
def V1.all(p:Nat->Bool):V1->Bool
 |.one l=>l.all p
 |.agg ls=>a7 p ls
def cV(p:Nat->Bool):List V1->Bool
 | []=>true
 |x::xs=>x.all p&&cV p xs
def SV.all(p:Nat->Bool):SV->Bool
 |.v x=>x.all p
 |.Fu xs=>cV p xs
def aN.all(p:Nat->Bool)(s:aN):Bool:=s.g.all p&&s.sv.all p
def gD.all(p:Nat->Bool)(b:gD):Bool:=p b.id&&a7 p b.cells
def Row.all(p:Nat->Bool)(r:Row):Bool:=p r.id&&(p r.lv&&r.g.all p)
def df.all(p:Nat->Bool)(r:df):Bool:=p r.id&&(p r.lv&&r.g.all p)
inductive CT where
 |c (k:CK)
 |s (e:TypeId) (ks:List CK)
 |n (e:TypeId) (aH:List NK)
 deriving DecidableEq,Repr,Inhabited
inductive VT where
 |one (c:CT)
 |agg (cs:List CT)
 |ptr (e:TypeId) (ks:List CK)
 |fn (g:FuncId) (cs:List (TypeId×IntKind))
 deriving DecidableEq,Repr,Inhabited
structure bJ where
 args:List VT
 res:List VT
 cons:Nat:=0
 deriving DecidableEq,Repr,Inhabited
inductive DE where
 |i (e:IE)
 |b (e:BE)
 |l (k:Nat)
 |nil
 |rows (es:List IE)
 |kn (xs:List (Sum IE BE))
 deriving DecidableEq,Repr,Inhabited
def bV(U:aA):Sum IE BE->Int
 |.inl e=>e.ae U
 |.inr b=>if b.ae U then 1 else 0
def DE.ae(U:aA):DE->DV
 |.i e=>.i (e.ae U)
 |.b e=>.b (e.ae U)
 |.l k=>.l (U k).list
 |.nil=>.l []
 |.rows es=>.l (es.map fun e=>[e.ae U])
 |.kn xs=>.l [xs.map (bV U)]
def VT.bt:VT->List CT
 |.one c=>[c]
 |.agg cs=>cs
 |.ptr e ks=>[.s e ks]
 |.fn _ cs=>cs.map fun c=>.s c.1 [.i c.2]
def bt(vs:List VT):List CT:=vs.flatMap VT.bt
inductive bI where
 |c (x:Sum IE BE)
 |s (lv:Nat)
 |nil
 deriving DecidableEq,Repr,Inhabited
def bI.head(U:aA):bI->Int
 |.c x=>bV U x
 |.s lv=>((U lv).list.length:Int)
 |.nil=>0
def bI.tail(U:aA):bI->List Int
 |.s lv=>(U lv).list.map fun r=>r.getD 0 0
 |_=>[]
inductive cT where
 |lit (rows:List (List (Sum IE BE)))
 |app (a b:Nat)
 |set (a:Nat) (i:IE) (j:Nat) (x:Sum IE BE)
 |Aj (a:Nat) (i:IE) (xs:List (Sum IE BE))
 |Al (a:Nat) (i:IE) (j:Nat) (xs:List (Sum IE BE))
 |take (a:Nat) (n:IE)
 |rep (n:IE) (row:List Int)
 |cp (a:Nat)
 |sub (a:Nat) (i:IE) (aH:List NK) (j:Nat)
 |LZ (a b:Nat)
 |yc (rows:List (List bI))
 deriving DecidableEq,Repr,Inhabited
def mL:List NK->List Int->List Int->Nat->List Int
 | [],_,_,_=>[]
 |.c _::_,_,_,0=>[]
 |.c _::aH,hs,rest,j+1=>mL aH hs.tail rest j
 |.s _ _::_,hs,rest,0=>rest.take (hs.headD 0).toNat
 |.s _ _::aH,hs,rest,j+1=>mL aH hs.tail (rest.drop (hs.headD 0).toNat) j
def fW(aH:List NK)(r:List Int)(j:Nat):List Int:=mL aH (r.take aH.length) (r.drop aH.length) j
def l7(r:List Int)(j:Nat)(x:Int):List Int:=if j<r.length then r.set j x else r++(List.replicate (j-r.length) 0++[x])
def gE(r:List Int)(j:Nat):List Int->List Int
 | []=>r
 |x::xs=>gE (l7 r j x) (j+1) xs
def setAt(xs:List (List Int))(i:Int)(j:Nat)(x:Int):List (List Int):=xs.modify i.toNat (fun r=>l7 r j x)
def cT.ae(U:aA):cT->List (List Int)
 |.lit rows=>rows.map fun r=>r.map (bV U)
 |.app a b=>(U a).list++(U b).list
 |.set a i j x=>setAt (U a).list (i.ae U) j (bV U x)
 |.Aj a i xs=>(U a).list.modify (i.ae U).toNat (fun _=>xs.map (bV U))
 |.Al a i j xs=>(U a).list.modify (i.ae U).toNat (fun r=>gE r j (xs.map (bV U)))
 |.take a n=>(U a).list.take (n.ae U).toNat
 |.rep n row=>List.replicate (n.ae U).toNat row
 |.cp a=>(U a).list
 |.sub a i aH j=>(fW aH ((U a).list.getD (i.ae U).toNat []) j).map fun x=>[x]
 |.LZ a b=>(U b).list.take (U a).list.length++(U a).list.drop (U b).list.length
 |.yc rows=>rows.map fun r=>r.map (bI.head U)++r.flatMap (bI.tail U)
inductive Ev where
 |aG (p:BE)
 |call (f:FuncId) (g:BE) (args:List DE) (res:List VT) (base:Nat)
 |cu (id:Nat) (op:cT)
 |dh (p:BE) (e:IE)
 deriving DecidableEq,Repr,Inhabited
inductive ar where
 |ret (bO:List DE)
 |stuck (why:String)
 |ev (e:Ev) (t:ar)
 |ite (c:BE) (t e:ar)
 |loop (id:Nat) (entry:List DE) (ks:List CT) (base:Nat) (body:ar)
 |again (id:Nat) (bO:List DE)
 |fail (e:IE)
 |gi (x:Nat) (tp t:ar)
 |pop (t:ar)
 deriving DecidableEq,Repr,Inhabited
structure Hint where
 cells:List (Nat×Nat)
 rows:List (Nat×TypeId×List CK)
 fC:List Nat:=[]
 aV:List (Nat×TypeId×List NK):=[]
 aar:List (Nat×Nat×TypeId×List CK):=[]
 deriving Inhabited
structure jA where
 sig:FuncId->Option bJ
 fy:Bool
 loops:List (Nat×Hint)
 splits:List (Nat×Nat×Nat)
 inl:List FuncId:=[]
 aG:Option FuncId:=none
 vB:Option FuncId:=none
 cw:TypeId:=0
 nH:TypeId:=0
 T4:List (Nat×List Nat×List Nat):=[]
 Ea:List Nat:=[]
 wE:List (Nat×List Int):=[]
 dM:Option St:=none
 xp:Option FuncId:=none
 bsl:List TypeId:=[]
 Ck:Option (Nat×Nat):=none
 no:List (Nat×Int):=[]
 deriving Inhabited
def xU(P:Program)(g:TypeId->Option (List CK)):Nat->List Field->Option (List CK)
 |_,[]=>some []
 | off,f::fs=>if f.offset=off then(match g f.type with
   | some m=>if P.cellsOf f.type=m.length/\0<m.length then(match xU P g (off+m.length) fs with
     |some r=>some (m++r)
     |none=>none)else none
   |none=>none)else none
def flat(P:Program):Nat->TypeId->Option (List CK)
 |0,_=>none
 | n+1,t=>
   match P.underlying t with
   |some (.int k)=>some [.i k]
   |some .bool=>some [.b]
   |some (.struct fs)=>xU P (flat P n) 0 fs.toList
   | some (.array len e)=>match flat P n e with
     |some m=>if P.cellsOf e=m.length/\0<m.length then some (List.replicate len m).flatten else none
     |none=>none
   |_=>none
def fG(P:Program)(t:TypeId):Bool:=
 match P.underlying t with
 |some (.struct _)|some (.array _ _)=>true
 |_=>false
def ofConst:Value->Option V1
 |.int k n=>some (.one (.i k (.c n)))
 |.bool x=>some (.one (.b (.c x)))
 |.slice none 0 0=>some (.one .jR)
 |.string s=>some (.one (.str s.data.toList))
 |.nilIface=>some (.one .FB)
 |_=>none
def Ja(st:St)(G:BE):Operand->Option SV
 | .tmp t=>match st.tmps[t]? with
   |some (some s)=>if G.gZ s.g then some s.sv else none
   |_=>none
 |.const v=>(ofConst v).map SV.v
 |.func f=>some (.v (.one (.f f)))
 |.global _=>none
def jX(st:St)(G:BE)(x:Operand):Option V1:=
 match Ja st G x with
 |some (.v x)=>some x
 |_=>none
def bc(st:St)(G:BE)(x:Operand):Option ag:=
 match Ja st G x with
 |some (.v (.one l))=>some l
 |_=>none
def Lx(wr:Bool)(k:IntKind)(e:IE):List BE×ag:=
 match e with
 |.c n=>([],.i k (.c (k.wrap n)))
 |e=>if wr then([],.i k (.wrap k e))else([inR k e],.i k e)
def arith(wr:Bool)(k:IntKind)(e:IE):List BE×ag:=Lx wr k e.mk
def xR:Nat->Int->Option Nat
 |0,_=>none
 |m+1,n=>if n+1=((2 ^ m:Nat):Int)then some m else xR m n
def Ly(wr:Bool)(op:BinOp)(x y:ag):Option (List BE×ag):=
 match op,x,y with
 |.shl,.i k a,.i _ (.c n)=>if 0<=n/\n<=62/\n<=k.bits then some (arith wr k (.mul a (.c ((2 ^ n.toNat:Nat):Int))))else none
 |.shl,.i k a,.i _ b=>let r:=arith wr k (.shl a b);some ((BE.le (.c 0) b).mk::(BE.le b (.c (k.bits:Int))).mk::r.1,r.2)
 |.shr,.i k a,.i _ (.c n)=>if 0<=n/\n<=64/\n<=k.bits then some ([],.i k (IE.ediv a (2 ^ n.toNat)).mk)else none
 |.shr,.i k a,.i _ b=>some ([(BE.le (.c 0) b).mk,(BE.le b (.c (k.bits:Int))).mk],.i k (IE.shr a b).mk)
 |.add,.i k a,.i k' b=>if k=k' then some (arith wr k (.add a b))else none
 |.sub,.i k a,.i k' b=>if k=k' then some (arith wr k (.sub a b))else none
 |.mul,.i k a,.i k' b=>if k=k' then some (arith wr k (.mul a b))else none
 |.quo,.i k a,.i k' b=>if k=k' then let r:=arith wr k (.tdiv a b);some ((BE.qu b).mk::r.1,r.2)else none
 |.rem,.i k a,.i k' b=>if k=k' then some ([(BE.qu b).mk],.i k (IE.tmod a b).mk)else none
 |.and,.i k a,.i k' (.c n)=>if k=k' then(match k,xR 63 n with
     |.i64,some m=>some ([],.i k (IE.emod a (2 ^ m)).mk)
     |.u64,some m=>some ([],.i k (IE.emod a (2 ^ m)).mk)
     |_,_=>some ([],.i k (IE.bits .and k a (.c n)).mk))else none
 |.and,.i k a,.i k' b=>if k=k' then some ([],.i k (IE.bits .and k a b).mk)else none
 |.or,.i k a,.i k' b=>if k=k' then some ([],.i k (IE.bits .or k a b).mk)else none
 |.xor,.i k a,.i k' b=>if k=k' then some ([],.i k (IE.bits .xor k a b).mk)else none
 |.andNot,.i k a,.i k' b=>if k=k' then some ([],.i k (IE.bits .andNot k a b).mk)else none
 |.lss,.i k a,.i k' b=>if k=k' then some ([],.b (BE.lt a b).mk)else none
 |.leq,.i k a,.i k' b=>if k=k' then some ([],.b (BE.le a b).mk)else none
 |.gtr,.i k a,.i k' b=>if k=k' then some ([],.b (BE.lt b a).mk)else none
 |.geq,.i k a,.i k' b=>if k=k' then some ([],.b (BE.le b a).mk)else none
 |.eql,.i k a,.i k' b=>if k=k' then some ([],.b (BE.eq a b).mk)else none
 |.neq,.i k a,.i k' b=>if k=k' then some ([],.b (BE.not (BE.eq a b).mk).mk)else none
 |_,_,_=>none
def FH:ag->ag->Option BE
 |.i k a,.i k' b=>if k=k' then some (BE.eq a b).mk else none
 |.b a,.b b=>some (BE.iff a b).mk
 |_,_=>none
def oT:List ag->List ag->Option BE
 | [],[]=>some (.c true)
 | x::xs,y::ys=>match FH x y,oT xs ys with
   |some p,some q=>some (BE.and p q).mk
   |_,_=>none
 |_,_=>none
def fits:CK->ag->Bool
 |.i k,.i k' _=>decide (k=k')
 |.b,.b _=>true
 |.f,.fl _=>true
 |_,_=>false
def oS:List CK->List ag->Bool
 | [],[]=>true
 |k::ks,l::ls=>fits k l&&oS ks ls
 |_,_=>false
def Vh(P:Program)(t:TypeId)(x y:V1):Option BE:=
 match x,y with
 | .one (.b a),.one (.b b)=>match P.underlying t with
   |some .bool=>some (BE.iff a b).mk
   |_=>none
 | .agg xs,.agg ys=>match flat P 16 t with
   |some ks=>if oS ks xs&&oS ks ys&&fG P t && !P.eqGuardType P.depth t && !ve P 16 t then oT xs ys else none
   |none=>none
 |_,_=>none
where
 ve (P:Program):Nat->TypeId->Bool
   |0,_=>true
   | n+1,t=>match P.underlying t with
     |some (.struct fs)=>P.stoodInHeld t||fs.toList.any fun f=>f.name == "_" ||ve P n f.type
     |some (.array _ e)=>ve P n e
     |_=>false
def fo(st:St)(id:Nat):Option gD:=st.aR.find? (fun b=>b.id==id)
def bp(st:St)(id:Nat):Option Row:=st.rows.find? (fun r=>r.id==id)
def dV(st:St)(id:Nat):Option df:=st.aV.find? (fun r=>r.id==id)
def oU(lv:Nat)(i:IE)(j:Nat):CK->ag
 |.i k=>.i k (.get lv i j)
 |.b=>.b (.qu (.get lv i j))
 |.f=>.fl (.get lv i j)
def lQ(lv:Nat)(i:IE):Nat->List CK->List ag
 |_,[]=>[]
 |j,k::ks=>oU lv i j k::lQ lv i (j+1) ks
def FI(ls:List ag)(off n:Nat):Option (List ag):=if off+n<=ls.length then some ((ls.drop off).take n)else none
def qy(P:Program)(t:TypeId)(cs:List ag)(off:Nat):Option V1:=
 if(P.underlying t).isSome&&decide (0<P.cellsOf t)then
   (if fG P t then(FI cs off (P.cellsOf t)).map V1.agg else(cs[off]?).map V1.one)
 else none
def rT(x:IE):Nat->List ag->Option ag
 |_,[]=>none
 |_,[l]=>some l
 | j,l::ls=>match l,rT x (j+1) ls with
   |.i k a,some (.i k' b)=>if k=k' then some (.i k (.lh x j a b))else none
   |.b p,some (.b q)=>some (.b (.or (.and (.eq x (.c (j:Int))) p) (.and (.not (.eq x (.c (j:Int)))) q)))
   |_,_=>none
def qz(cells:List ag)(off sz:Nat):Nat->Option (List ag)
 |0=>some []
 | n+1=>match cells[off]?,qz cells (off+sz) sz n with
   |some l,some ls=>some (l::ls)
   |_,_=>none
def DN(cells:List ag)(off sz n:Nat)(x:IE):Option ag:=
 match qz cells off sz n with
 |some ls=>rT x 0 ls
 |none=>none
def qA(cells:List ag)(sz n:Nat)(x:IE):Nat->Nat->Option (List ag)
 |_,0=>some []
 | off,m+1=>match DN cells off sz n x,qA cells sz n x (off+1) m with
   |some l,some ls=>some (l::ls)
   |_,_=>none
def LB(P:Program)(t:TypeId)(r:Row)(i:IE)(j:Nat):Option (List BE×V1):=
 match r.ks,i,j with
 | [k],.c (.ofNat n),0=>if(P.underlying t).isSome&&decide (0<P.cellsOf t)&&fG P t then
     some ([(BE.le (.c ((n+P.cellsOf t:Nat):Int)) (.len r.lv)).mk],.agg ((List.range (P.cellsOf t)).map fun(q:Nat)=>oU r.lv (.c ((n+q:Nat):Int)) 0 k))else none
 |_,_,_=>none
def A0(P:Program)(st:St)(G:BE)(t:TypeId):ag->Option (List BE×V1)
 | .p id off=>match fo st id with
   |some b=>(qy P t b.cells off).map fun v=>([],v)
   |none=>none
 | .pi id off sz n x=>match fo st id with
   |some b=>if !((P.underlying t).isSome&&decide (0<P.cellsOf t))then none else if fG P t then(qA b.cells sz n x off (P.cellsOf t)).map fun ls=>([(BE.le (.c 0) x).mk,(BE.lt x (.c (n:Int))).mk],V1.agg ls)
       else(DN b.cells off sz n x).map fun l=>([(BE.le (.c 0) x).mk,(BE.lt x (.c (n:Int))).mk],V1.one l)
   |none=>none
 | .ep row sz i j=>match bp st row with
   |some r=>if G.gZ r.g&&decide (r.ks.length=sz)then
       (match qy P t (lQ r.lv i 0 r.ks) j with
       |some v=>some ([(BE.le (.c 0) i).mk,(BE.lt i (.len r.lv)).mk],v)
       |none=>LB P t r i j)else none
   |none=>none
 | .ab row i b=>match bp st row with
   |some r=>if G.gZ r.g&&decide (r.ks=[.i .u8])&&(P.underlying t).isSome&&decide (P.cellsOf t=1) && !fG P t then
       some ([(BE.lt (.c (i:Int)) (.len r.lv)).mk,(BE.eq (.get r.lv (.c (i:Int)) 0) (.c (b.toNat:Int))).mk],.one (.i .u8 (.c (b.toNat:Int))))else none
   |none=>none
 |_=>none
def B6(row sz:Nat)(i:IE)(j o:Nat):ag:=
 match sz,i,j with
 |1,.c (.ofNat n),0=>.ep row 1 (.c ((n+o:Nat):Int)) 0
 |_,_,_=>.ep row sz i (j+o)
def qE(P:Program)(s:TypeId)(f:Nat):Option (Nat×TypeId):=
 match P.underlying s with
 | some (.struct fs)=>match fs[f]? with
   |some fd=>if P.cellsOf fd.type=0 then none else some (fd.offset,fd.type)
   |none=>none
 |_=>none
def LH(P:Program)(st:St)(G:BE)(t:TypeId)(x:ag)(k:IntKind)(i:IE):Option (List BE×ag):=
 match P.underlying t,x with
 | some (.array len e),.p id off=>match i with
   |.c n=>if 0<=n/\n<(len:Int)/\1<len/\(P.info? e).isSome=true then some ([],.p id (off+n.toNat*P.cellsOf e))else none
   |x=>if 1<len/\(P.info? e).isSome=true then some ([(BE.le (.c 0) x).mk,(BE.lt x (.c (len:Int))).mk],.pi id off (P.cellsOf e) len x)else none
 | some (.array len e),.ep row sz r j=>match bp st row with
   |some rr=>if r = .c 0/\j=0/\rr.ks.length=sz/\P.cellsOf e=sz/\(P.info? e).isSome=true/\1<len/\G.gZ rr.g=true then
       some ([(BE.le (.c 0) i).mk,(BE.lt i (.c (len:Int))).mk,(BE.lt i (.len rr.lv)).mk],.ep row sz i 0)else(match i with
   | .c n=>match bp st row with
     |some rr=>if 0<=n/\n<(len:Int)/\1<len/\(P.info? e).isSome=true/\G.gZ rr.g=true then some ([(BE.le (.c 0) r).mk,(BE.lt r (.len rr.lv)).mk],.ep row sz r (j+n.toNat*P.cellsOf e))else none
     |none=>none
   |_=>none)
   |none=>none
 | some (.slice e),.s row=>match bp st row with
   |some r=>if G.gZ r.g&&decide (P.cellsOf e=r.ks.length)then some ([(BE.le (.c 0) i).mk,(BE.lt i (.len r.lv)).mk],.ep row r.ks.length i 0)else none
   | none=>match dV st row with
     |some r=>if G.gZ r.g&&decide (P.cellsOf e=r.aH.length)then some ([(BE.le (.c 0) i).mk,(BE.lt i (.len r.lv)).mk],.ep row r.aH.length i 0)else none
     |none=>none
 | some (.slice e),.vw row sz lo n=>match bp st row with
   |some r=>if G.gZ r.g&&decide (P.cellsOf e=sz)&&decide (r.ks.length=sz)then some ([(BE.le (.c 0) i).mk,(BE.lt i n).mk,(BE.le (.c 0) lo).mk,(BE.le (.add lo n) (.len r.lv)).mk],.ep row sz (IE.add lo i).mk 0)else none
   |none=>none
 | some (.slice e),.kb row bs=>match bp st row with
   | some r=>if G.gZ r.g&&decide (P.cellsOf e=1)&&decide (r.ks.length=1)then(match i with
     |.c m=>if 0<=m then(bs[m.toNat]?).map fun b=>([(BE.lt (.c m) (.len r.lv)).mk],.ab row m.toNat b)else none
     |_=>none)else none
   |none=>none
 | some (.slice e),.bs id n sz=>if decide (P.cellsOf e=sz)&&(P.info? e).isSome then(match i with
   |.c m=>if 0<=m/\m<(n:Int)then some ([],.p id (m.toNat*sz))else none
   |x=>some ([(BE.le (.c 0) x).mk,(BE.lt x (.c (n:Int))).mk],.pi id 0 sz n x))else none
 |_,_=>none
def gM(cells:List ag)(off:Nat):List ag->List ag
 | []=>cells
 |l::ls=>gM (cells.set off l) (off+1) ls
def V1.leaves:V1->List ag
 |.one l=>[l]
 |.agg ls=>ls
def A2(place:Nat->Option (Nat×Nat))(cells:List ag):List (Nat×V1)->Option (List ag)
 | []=>some cells
 | (i,v)::rest=>match place i with
   |none=>none
   | some (off,size)=>if v.leaves.length≠size\/off+v.leaves.length>cells.length then none
     else A2 place (gM cells off v.leaves) rest
def qC:Value->Option ag
 |.int k n=>some (.i k (.c n))
 |.bool x=>some (.b (.c x))
 |.slice none 0 0=>some .jR
 |.pointer none=>some .Rw
 |.nilFunc=>some .Rx
 |.nilIface=>some .FB
 |.string s=>some (.str s.data.toList)
 |_=>none
def nZ(P:Program)(t:TypeId):Option V1:=
 match(P.info? t).bind (·.zero)with
 |some (.agg cs)=>(cs.toList.mapM qC).map V1.agg
 |some v=>(qC v).map V1.one
 |none=>none
def tf(P:Program)(t:TypeId):Option (Nat->Option (Nat×Nat)):=
 match P.underlying t with
 |some (.struct fs)=>if fs.toList.all (fun f=>(P.info? f.type).isSome)then some fun i=>(fs[i]?).map fun f=>(f.offset,P.cellsOf f.type)else none
 |some (.array _ e)=>if(P.info? e).isSome then some fun i=>some (i*P.cellsOf e,P.cellsOf e)else none
 |_=>none
def gp(st:St)(G:BE):List (Nat×Operand)->Option (List (Nat×V1))
 | []=>some []
 | (i,x)::rest=>match jX st G x,gp st G rest with
   |some v,some l=>some ((i,v)::l)
   |_,_=>none
def ko(st:St)(G:BE):List Operand->Option (List V1)
 | []=>some []
 | x::rest=>match jX st G x,ko st G rest with
   |some v,some l=>some (v::l)
   |_,_=>none
def qD(st:St)(G:BE):List Operand->Option (List (Bool×Nat))
 | []=>some []
 | x::rest=>match bc st G x,qD st G rest with
   |some (.p id 0),some l=>some ((false,id)::l)
   |some (.ep row 1 (.c 0) 0),some l=>some ((true,row)::l)
   |_,_=>none
def DP:List ag->Option (List cO)
 | []=>some []
 | l::ls=>match l.down,DP ls with
   |some x,some xs=>some (x::xs)
   |_,_=>none
def isConst:Operand->Bool
 |.const _=>true
 |_=>false
def RC(P:Program)(st:St)(G:BE)(t:TypeId)(X Y:Operand)(x y:V1):Option (List BE×BE):=
 match x,y with
 | .one .jR,.one .jR=>match P.underlying t with
   |some (.slice _)=>some ([],.c true)
   |_=>none
 | .one (.s row),.one .jR=>match P.underlying t,bp st row with
   |some (.slice _),some r=>if G.gZ r.g then some ([(BE.lt (.c 0) (.len r.lv)).mk],.c false)else none
   |_,_=>none
 | .one (.str a),.one (.str b)=>match P.underlying t with
   |some .string=>some ([],.c (decide (a=b)))
   |_=>none
 | .one .FB,.one .FB=>match P.underlying t with
   |some (.interface _)=>if isConst X||isConst Y then some ([],.c true)else none
   |_=>none
 |_,_=>none
def Vm(P:Program)(wr:Bool)(st:St)(G:BE)(op:Op):Option (List BE×SV):=
 match op with
 |.move x| .assign x=>(Ja st G x).map fun v=>([],v)
 | .pick c a b=>match bc st G c with
   | some (.b p)=>match bc st (BE.and G p).mk a,bc st (BE.and G (BE.not p).mk).mk b with
     |some (.b x),some (.b y)=>some ([],.v (.one (.b (match y,x with
         |.c false,x=>(BE.and p x).mk
         |y,.c true=>(BE.or p y).mk
         |y,x=>(BE.or (BE.and p x).mk (BE.and (BE.not p).mk y).mk).mk))))
     |_,_=>none
   |_=>none
 | .binOp .eql t x y _=>match jX st G x,jX st G y with
   |some (.one (.i k a)),some (.one (.i k' b))=>(Ly wr .eql (.i k a) (.i k' b)).map fun r=>(r.1,.v (.one r.2))
   | some u,some v=>match RC P st G t x y u v with
     |some r=>some (r.1,.v (.one (.b r.2)))
     |none=>(Vh P t u v).map fun p=>([],.v (.one (.b p)))
   |_,_=>none
 | .binOp .neq t x y _=>match jX st G x,jX st G y with
   |some (.one (.i k a)),some (.one (.i k' b))=>(Ly wr .neq (.i k a) (.i k' b)).map fun r=>(r.1,.v (.one r.2))
   | some u,some v=>match RC P st G t x y u v with
     |some r=>some (r.1,.v (.one (.b (BE.not r.2).mk)))
     |none=>(Vh P t u v).map fun p=>([],.v (.one (.b (BE.not p).mk)))
   |_,_=>none
 | .binOp op _ x y _=>match bc st G x,bc st G y with
   |some a,some b=>(Ly wr op a b).map fun r=>(r.1,.v (.one r.2))
   |_,_=>none
 | .unOp .not _ x=>match bc st G x with
   |some (.b p)=>some ([],.v (.one (.b (BE.not p).mk)))
   |_=>none
 | .unOp .neg _ x=>match bc st G x with
   |some (.i k a)=>let r:=arith wr k (.sub (.c 0) a);some (r.1,.v (.one r.2))
   |_=>none
 | .convert src dst x=>match bc st G x,P.underlying src,P.underlying dst with
   | some (.i k a),some _,some (.int k')=>
     if k=k'||(decide (k' = .i64)&&decide (k≠.u64))then(let r:=arith wr k' a;some (r.1,.v (.one r.2)))
     else some ([],.v (.one (.i k' (IE.wrap k' a).mk)))
   |_,_,_=>none
 | .load t x=>match bc st G x with
   |some l=>(A0 P st G t l).map fun r=>(r.1,.v r.2)
   |none=>none
 | .fieldAddr s x f=>match bc st G x,qE P s f with
   |some (.p id off),some (o,_)=>some ([],.v (.one (.p id (off+o))))
   |some (.pi id off sz n y),some (o,_)=>some ([],.v (.one (.pi id (off+o) sz n y)))
   | some (.ep row sz i j),some (o,_)=>match bp st row with
     |some r=>if G.gZ r.g then some ([(BE.le (.c 0) i).mk,(BE.lt i (.len r.lv)).mk],.v (.one (B6 row sz i j o)))else none
     | none=>match dV st row with
       |some r=>if G.gZ r.g then some ([(BE.le (.c 0) i).mk,(BE.lt i (.len r.lv)).mk],.v (.one (.ep row sz i (j+o))))else none
       |none=>none
   |_,_=>none
 | .field s x f=>match jX st G x,qE P s f with
   |some (.agg cs),some (o,t)=>(qy P t cs o).map fun v=>([],.v v)
   |_,_=>none
 | .indexAddr t x i=>match bc st G x,bc st G i with
   |some l,some (.i k e)=>(LH P st G t l k e).map fun r=>(r.1,.v (.one r.2))
   |_,_=>none
 | .index t x i=>match jX st G x,bc st G i,P.underlying t with
   | some (.agg cs),some (.i _ (.c n)),some (.array len e)=>
     if 0<=n/\n<(len:Int)then(qy P e cs (n.toNat*P.cellsOf e)).map fun v=>([],.v v)else none
   | some (.agg cs),some (.i _ x),some (.array len e)=>
     if(P.underlying e).isSome && !fG P e&&decide (P.cellsOf e=1)&&decide (cs.length=len)then(DN cs 0 1 len x).map fun l=>([(BE.le (.c 0) x).mk,(BE.lt x (.c (len:Int))).mk],.v (.one l))else none
   | some (.one (.str bs)),some (.i _ (.c n)),some .string=>
     if 0<=n then(bs[n.toNat]?).map fun b=>([],.v (.one (.i .u8 (.c (b.toNat:Int)))))else none
   |_,_,_=>none
 | .nilCheck x=>match bc st G x with
   |some (.p id off)=>some ([],.v (.one (.p id off)))
   | some (.ep row sz i j)=>match bp st row with
     |some r=>if G.gZ r.g then some ([(BE.lt (.c 0) (.len r.lv)).mk],.v (.one (.ep row sz i j)))else none
     |none=>none
   |_=>none
 | .makeFunc (.func g) first captured=>match first.toList with
   | []=>(qD st G captured.toList).map fun cS=>([],.v (.one (.fn g cS)))
   | [x]=>if captured.toList=[]then(match jX st G x with
     |some (.one l)=>l.down.map fun l=>([],.v (.one (.bf g false [l])))
     |some (.agg ls)=>(DP ls).map fun ls=>([],.v (.one (.bf g true ls)))
     |none=>none)else none
   |_=>none
 | .slice t x low high cap=>match P.underlying t,bc st G x with
   | some (.slice e),some (.s row)=>match bp st row with
     | some r=>if G.gZ r.g&&decide (P.cellsOf e=r.ks.length)&&decide (r.e=e)&&(P.info? e).isSome then(match low,high,cap with
       | some l,none,none=>match bc st G l with
         |some (.i _ lo)=>some ([(BE.le (.c 0) lo).mk,(BE.le lo (.len r.lv)).mk],.v (.one (.vw row r.ks.length lo (IE.sub (.len r.lv) lo).mk)))
         |_=>none
       | some l,some h,none=>match bc st G l,bc st G h with
         |some (.i _ lo),some (.i _ hi)=>some ([(BE.le (.c 0) lo).mk,(BE.le lo hi).mk,(BE.le hi (.len r.lv)).mk],.v (.one (.vw row r.ks.length lo (IE.sub hi lo).mk)))
         |_,_=>none
       | none,some h,some m=>match bc st G h,bc st G m with
         |some (.i _ hi),some (.i _ mx)=>some ([(BE.eq hi (.len r.lv)).mk,(BE.eq mx (.len r.lv)).mk],.v (.one (.cs row)))
         |_,_=>none
       |_,_,_=>none)else none
     |none=>none
   | some .string,some (.str bs)=>match low,high,cap with
     | some l,none,none=>match bc st G l with
       |some (.i _ (.c lo))=>if 0<=lo/\lo<=(bs.length:Int)then some ([],.v (.one (.str (bs.drop lo.toNat))))else none
       |_=>none
     | none,some h,none=>match bc st G h with
       |some (.i _ (.c hi))=>if 0<=hi/\hi<=(bs.length:Int)then some ([],.v (.one (.str (bs.take hi.toNat))))else none
       |_=>none
     |_,_,_=>none
   |_,_=>none
 |.sliceToArrayPointer t x=>match P.underlying t with
     | some (.array len e)=>if 0<len/\P.cellsOf e=1 then(match bc st G x with
       | some (.s row)=>match bp st row with
         |some r=>if G.gZ r.g&&decide (r.ks.length=1)then some ([(BE.le (.c (len:Int)) (.len r.lv)).mk],.v (.one (.ep row 1 (.c 0) 0)))else none
         |none=>none
       | some (.vw row 1 lo n)=>match bp st row with
         |some r=>if G.gZ r.g&&decide (r.ks.length=1)then some ([(BE.le (.c (len:Int)) n).mk,(BE.le (.c 0) lo).mk,(BE.le (.add lo n) (.len r.lv)).mk],.v (.one (.ep row 1 lo 0)))else none
         |none=>none
       |_=>none)else none
     |_=>none
 | .extract x n=>match Ja st G x with
   |some (.Fu xs)=>(xs[n]?).map fun v=>([],.v v)
   |_=>none
 | .build t parts=>match nZ P t,tf P t,gp st G parts.toList with
   |some (.agg z),some place,some ps=>(A2 place z ps).map fun cs=>([],.v (.agg cs))
   |_,_,_=>none
 | .call {callee:=.builtin .len,args,argTypes}=>match args.toList,argTypes[0]?.bind P.underlying with
   | [x],some (.slice _)=>match bc st G x with
     | some (.s row)=>match bp st row with
       |some r=>if G.gZ r.g then some ([],.v (.one (.i .i64 (.len r.lv))))else none
       | none=>match dV st row with
         |some r=>if G.gZ r.g then some ([],.v (.one (.i .i64 (.len r.lv))))else none
         |none=>none
     |some .jR=>some ([],.v (.one (.i .i64 (.c 0))))
     | some (.vw row _ lo n)=>match bp st row with
       |some r=>if G.gZ r.g then some ([(BE.le (.c 0) n).mk],.v (.one (.i .i64 n)))else none
       |none=>none
     |some (.bs _ n _)=>some ([],.v (.one (.i .i64 (.c (n:Int)))))
     | some (.kb row bs)=>match bp st row with
       |some r=>if G.gZ r.g then some ([(BE.eq (.len r.lv) (.c (bs.length:Int))).mk],.v (.one (.i .i64 (.c (bs.length:Int)))))else none
       |none=>none
     |_=>none
   | [x],some .string=>match bc st G x with
     |some (.str bs)=>some ([],.v (.one (.i .i64 (.c (bs.length:Int)))))
     |_=>none
   |_,_=>none
 | .call {callee:=.builtin .max,args,..}=>match args.toList with
   | [x,y]=>match bc st G x,bc st G y with
     |some (.i k a),some (.i k' b)=>if k=k' then some ([],.v (.one (.i k (IE.max a b).mk)))else none
     |_,_=>none
   | [x,y,z]=>match bc st G x,bc st G y,bc st G z with
     |some (.i k a),some (.i k' b),some (.i k'' c)=>if k=k'/\k=k'' then some ([],.v (.one (.i k (IE.max (IE.max a b).mk c).mk)))else none
     |_,_,_=>none
   |_=>none
 | .call {callee:=.builtin .min,args,..}=>match args.toList with
   | [x,y]=>match bc st G x,bc st G y with
     |some (.i k a),some (.i k' b)=>if k=k' then some ([],.v (.one (.i k (IE.min a b).mk)))else none
     |_,_=>none
   | [x,y,z]=>match bc st G x,bc st G y,bc st G z with
     |some (.i k a),some (.i k' b),some (.i k'' c)=>if k=k'/\k=k'' then some ([],.v (.one (.i k (IE.min (IE.min a b).mk c).mk)))else none
     |_,_,_=>none
   |_=>none
 |_=>none
def St.put(st:St)(dst:Option Tmp)(s:aN):St:=
 match dst with
 |some d=>{st with tmps:=st.tmps.set d (some s) }
 |none=>st
def St.JC(st:St)(dst:Option Tmp)(s:aN):Option St:=if s.all st.has then some (st.put dst s)else none
def vm(st:St)(b:gD):St:={st with aR:=st.aR.map fun x=>if x.id=b.id then b else x}
def qT(st:St)(G:BE):CT->ag->Option DE
 |.c (.i k),.i k' e=>if k=k' then some (.i e)else none
 |.c .b,.b e=>some (.b e)
 |.c .f,.fl e=>some (.i e)
 | .s e ks,.s row=>match bp st row with
   |some r=>if G.gZ r.g&&decide (r.e=e)&&decide (r.ks=ks)then some (.l r.lv)else none
   |none=>none
 |.s _ ks,.jR=>if 0<ks.length then some .nil else none
 | .n e aH,.s row=>match bp st row with
   |some _=>none
   | none=>match dV st row with
     |some r=>if G.gZ r.g&&decide (r.e=e)&&decide (r.aH=aH)then some (.l r.lv)else none
     |none=>none
 |.n _ aH,.jR=>if 0<aH.length then some .nil else none
 |_,_=>none
def b8(st:St)(G:BE):List CT->List ag->Option (List DE)
 | [],[]=>some []
 | c::cs,l::ls=>match qT st G c l,b8 st G cs ls with
   |some d,some ds=>some (d::ds)
   |_,_=>none
 |_,_=>none
def rX(k:IntKind):List ag->Option (List IE)
 | []=>some []
 | .i k' e::ls=>if k=k' then(match rX k ls with
   |some es=>some (e::es)
   |none=>none)else none
 |_::_=>none
def l9:CK->ag->Option (Sum IE BE)
 |.i k,.i k' e=>if k=k' then some (.inl e)else none
 |.b,.b e=>some (.inr e)
 |_,_=>none
def dB:List CK->List ag->Option (List (Sum IE BE))
 | [],[]=>some []
 | k::ks,l::ls=>match l9 k l,dB ks ls with
   |some x,some xs=>some (x::xs)
   |_,_=>none
 |_,_=>none
def Bc(st:St)(G:BE)(e:TypeId)(ks:List CK):ag->Option DE
 | .p id 0=>match fo st id with
   | some b=>match ks with
     | [.i k]=>if b.cells.length<=65536 then(rX k b.cells).map DE.rows else none
     |ks=>if 0<ks.length then(dB ks b.cells).map DE.kn else none
   |none=>none
 | .ep row sz (.c 0) 0=>match bp st row with
   |some r=>if G.gZ r.g&&decide (r.e=e)&&decide (r.ks=ks)&&decide (sz=ks.length)then some (.l r.lv)else none
   |none=>none
 |_=>none
def oX(c:Bool×Nat):ag:=if c.1 then .ep c.2 1 (.c 0) 0 else .p c.2 0
def tl(st:St)(G:BE):List (TypeId×IntKind)->List (Bool×Nat)->Option (List DE)
 | [],[]=>some []
 | (e,k)::cs,c::cS=>match Bc st G e [.i k] (oX c),tl st G cs cS with
   |some d,some ds=>some (d::ds)
   |_,_=>none
 |_,_=>none
def Vz(st:St)(G:BE):VT->V1->Option (List DE)
 |.one c,.one l=>(qT st G c l).map fun d=>[d]
 |.agg cs,.agg ls=>b8 st G cs ls
 |.ptr e ks,.one l=>(Bc st G e ks l).map fun d=>[d]
 |.fn g cs,.one (.fn g' cS)=>if g=g' then tl st G cs cS else none
 |_,_=>none
def mf(st:St)(G:BE):List VT->List V1->Option (List DE)
 | [],[]=>some []
 | t::ts,v::vs=>match Vz st G t v,mf st G ts vs with
   |some d,some ds=>some (d++ds)
   |_,_=>none
 |_,_=>none
def kU(b:gD):List gD->List gD
 | []=>[b]
 |x::xs=>if x.id<b.id then b::x::xs else x::kU b xs
def cQ(r:Row):List Row->List Row
 | []=>[r]
 |x::xs=>if x.id<r.id then r::x::xs else x::cQ r xs
def cG(rs l:List Row):List Row:=rs.foldr cQ l
def tj(r:df):List df->List df
 | []=>[r]
 |x::xs=>if x.id<r.id then r::x::xs else x::tj r xs
def p5(rs l:List df):List df:=rs.foldr tj l
def cn(G:BE)(id:Nat):CT->ag×List Row
 |.c (.i k)=>(.i k (.v id),[])
 |.c .b=>(.b (.v id),[])
 |.c .f=>(.fl (.v id),[])
 |.s e ks=>(.s id,[{id,e,ks,lv:=id,own:=true,g:=G}])
 |.n _ _=>(.s id,[])
def aF(G:BE):Nat->List CT->List ag×List Row
 |_,[]=>([],[])
 |id,c::cs=>let(l,r):=cn G id c;let(ls,rs):=aF G (id+1) cs;(l::ls,r++rs)
def gu(G:BE):Nat->List (TypeId×IntKind)->List (Bool×Nat)×List Row
 |_,[]=>([],[])
 |id,(e,k)::cs=>((true,id)::(gu G (id+1) cs).1,{id,e,ks:=[.i k],lv:=id,own:=true,g:=G}::(gu G (id+1) cs).2)
def iR(G:BE)(id:Nat):VT->V1×List Row
 |.one c=>let(l,r):=cn G id c;(.one l,r)
 |.agg cs=>let(ls,r):=aF G id cs;(.agg ls,r)
 |.ptr e ks=>(.one (.ep id ks.length (.c 0) 0),[{id,e,ks,lv:=id,own:=true,g:=G}])
 |.fn g cs=>(.one (.fn g (gu G id cs).1),(gu G id cs).2)
def bR(G:BE):Nat->List VT->List V1×List Row
 |_,[]=>([],[])
 |id,t::ts=>let(v,r):=iR G id t;let(vs,rs):=bR G (id+t.bt.length) ts;(v::vs,r++rs)
def dj(own:Bool)(G:BE):Nat->List CT->List df
 |_,[]=>[]
 |id,.n e aH::cs=>⟨id,e,aH,id,G,own⟩::dj own G (id+1) cs
 |id,_::cs=>dj own G (id+1) cs
def og:List V1->SV
 | [x]=>.v x
 |xs=>.Fu xs
def oZ(x:IE)(l:ag)(sz:Nat)(cells:List ag)(off:Nat):Nat->Nat->Option (List ag)
 |_,0=>some cells
 | j,n+1=>match cells[off]?,l with
   |some (.i k a),.i k' b=>if k=k' then oZ x l sz (cells.set off (.i k (.lh x j b a))) (off+sz) (j+1) n else none
   |some (.b p),.b q=>oZ x l sz (cells.set off (.b (.or (.and (.eq x (.c (j:Int))) q) (.and (.not (.eq x (.c (j:Int)))) p)))) (off+sz) (j+1) n
   |_,_=>none
def ud(x:IE)(sz n:Nat)(cells:List ag)(off:Nat):List ag->Option (List ag)
 | []=>some cells
 | l::ls=>match oZ x l sz cells off 0 n with
   |some cs=>ud x sz n cs (off+1) ls
   |none=>none
def jw:aN:=⟨.c false,.v (.one (.b (.c false)))⟩
def n5(st:St)(key:Nat)(e:TypeId)(ls:List ag)(dst:Option Tmp):Option (List Ev×St):=
 if st.free key 1&&a7 st.has ls then
   some ([],{st.bd key 1 with aR:=kU ⟨key,e,ls⟩ st.aR}.put dst ⟨.c true,.v (.one (.p key 0))⟩)
 else none
def Ap(st:St)(key:Nat)(e:TypeId)(aH:List NK)(cN:List Ev)(op:cT)(rows:List Row)(aV:List df)(dst:Option Tmp):Option (List Ev×St):=
 if st.free key 1&&decide (0<aH.length)then
   some (cN++[.cu key op],{st.bd key 1 with rows,aV:=tj ⟨key,e,aH,key,.c true,true⟩ aV}.put dst ⟨.c true,.v (.one (.s key))⟩)
 else none
def setCells(st:St)(b:gD)(cs:List ag)(dst:Option Tmp):Option (List Ev×St):=
 if a7 st.has cs then some ([],(vm st {b with cells:=cs}).put dst jw)else none
def newRow(st:St)(G:BE)(key:Nat)(e:TypeId)(ks:List CK)(cN:List Ev)(op:cT)(rows:List Row)(dst:Option Tmp):Option (List Ev×St):=
 if st.free key 1&&G.all st.has then
   some (cN++[.cu key op],{st.bd key 1 with rows:=cQ ⟨key,e,ks,key,true,G⟩ rows}.put dst ⟨G,.v (.one (.s key))⟩)
 else none
def qM(st:St)(l:ag)(ls:List ag)(key:Nat)(dst:Option Tmp):Option (List Ev×St):=
 match l with
 | .p id off=>match fo st id with
   |some b=>if off+ls.length<=b.cells.length then setCells st b (gM b.cells off ls) dst else none
   |none=>none
 | .pi id off sz n x=>match fo st id with
   | some b=>match ud x sz n b.cells off ls with
     | some cs=>if 0<n/\ls.length<=sz/\0<ls.length then(match setCells st b cs dst with
       |some (cN,aW)=>some (.aG (BE.le (.c 0) x).mk :: .aG (BE.lt x (.c (n:Int))).mk::cN,aW)
       |none=>none)else none
     |none=>none
   |none=>none
 | .ep row sz x j=>match bp st row,ls with
   | some r,[l]=>match r.ks[j]? with
     | some kj=>match l9 kj l with
       |some y=>if r.own&&decide (r.g = .c true)&&decide (r.ks.length=sz)&&st.free key 1 then
       some ([.aG (BE.le (.c 0) x).mk,.aG (BE.lt x (.len r.lv)).mk,.cu key (.set r.lv x j y)],
         {st.bd key 1 with rows:=cQ {r with lv:=key} (st.rows.filter fun z=>decide (z.id≠row)) }.put dst jw)else none
       |none=>none
     |none=>none
   | some r,ls=>match dB r.ks ls with
     |some es=>if r.own&&decide (r.g = .c true)&&decide (r.ks.length=sz)&&decide (j=0)&&decide (1<sz)&&st.free key 1 then
         some ([.aG (BE.le (.c 0) x).mk,.aG (BE.lt x (.len r.lv)).mk,.cu key (.Aj r.lv x es)],
           {st.bd key 1 with rows:=cQ {r with lv:=key} (st.rows.filter fun z=>decide (z.id≠row)) }.put dst jw)else none
     | none=>match dB ((r.ks.drop j).take ls.length) ls with
       |some es=>if r.own&&decide (r.g = .c true)&&decide (r.ks.length=sz)&&decide (j+ls.length<=sz)&&decide (0<ls.length)&&st.free key 1 then
           some ([.aG (BE.le (.c 0) x).mk,.aG (BE.lt x (.len r.lv)).mk,.cu key (.Al r.lv x j es)],
             {st.bd key 1 with rows:=cQ {r with lv:=key} (st.rows.filter fun z=>decide (z.id≠row)) }.put dst jw)else none
       |none=>none
   |_,_=>none
 |_=>none
def mS(ks:List CK):Nat->Nat->List (Nat×V1)->Option (List (List (Sum IE BE)))
 |0,_,[]=>some []
 |n+1,i,(j,v)::ps=>if i=j then
     (match dB ks v.leaves,mS ks n (i+1) ps with
     |some r,some rs=>some (r::rs)
     |_,_=>none)else none
 |_,_,_=>none
def ki(P:Program)(e:TypeId):Option Nat:=
 match P.info? e with
 | some i=>match i.zero with
   |some z=>if decide (0<i.bytes)&&decide (0<i.size)&&decide (z.cells.size=i.size)then some (140737488355328/i.bytes)else none
   |none=>none
 |none=>none
def HL(g:TypeId->Option (List NK)):List Field->Option (List NK)
 | []=>some []
 | f::fs=>match g f.type,HL g fs with
   |some m,some r=>some (m++r)
   |_,_=>none
def L4(P:Program):Nat->TypeId->Option (List NK)
 |0,_=>none
 | n+1,t=>match P.underlying t with
   |some (.int k)=>some [.c (.i k)]
   |some .bool=>some [.c .b]
   | some (.slice e)=>match flat P 16 e with
     |some [k]=>some [.s e k]
     |_=>none
   |some (.struct fs)=>HL (L4 P n) fs.toList
   |some (.array len e)=>(L4 P n e).map fun m=>(List.replicate len m).flatten
   |_=>none
def mb(st:St):List NK->List ag->Option (List bI×List Nat)
 | [],[]=>some ([],[])
 | .c k::aH,l::ls=>match l9 k l,mb st aH ls with
   |some x,some (xs,gs)=>some (.c x::xs,gs)
   |_,_=>none
 | .s e k::aH,.s r::ls=>match bp st r,mb st aH ls with
   |some x,some (xs,gs)=>if x.own&&decide (x.g = .c true)&&decide (x.e=e)&&decide (x.ks=[k])then some (.s x.lv::xs,r::gs)else none
   |_,_=>none
 | .s _ _::aH,.jR::ls=>match mb st aH ls with
   |some (xs,gs)=>some (.nil::xs,gs)
   |none=>none
 |_,_=>none
def kH(st:St)(aH:List NK):Nat->Nat->List (Nat×V1)->Option (List (List bI)×List Nat)
 |0,_,[]=>some ([],[])
 |n+1,i,(j,v)::ps=>if i=j then
     (match mb st aH v.leaves,kH st aH n (i+1) ps with
     |some (r,g),some (rs,gs)=>some (r::rs,g++gs)
     |_,_=>none)else none
 |_,_,_=>none
def vC:List Nat->Bool
 | []=>true
 |x::xs=>!xs.contains x&&vC xs
def jz(sz:Nat):Nat->Nat->List (Nat×V1)->Option (List ag)
 |0,_,[]=>some []
 |n+1,i,(j,v)::ps=>if i=j/\v.leaves.length=sz then(jz sz n (i+1) ps).map fun ls=>v.leaves++ls else none
 |_,_,_=>none
def aas(P:Program)(bsl:List TypeId)(st:St)(G:BE)(key:Nat)(dst:Option Tmp)(t:TypeId)(n:Nat)(parts:Array (Nat×Operand)):Option (List Ev×St):=
 match P.underlying t,gp st G parts.toList with
 |some (.slice e),some ps=>if bsl.contains e then(if decide (G = .c true)&&((P.info? e).bind (·.zero)).isSome&&decide (0<P.cellsOf e)&&decide (n*P.cellsOf e<=16777216)then
     (match jz (P.cellsOf e) n 0 ps with
     |some ls=>if st.free key 1&&a7 st.has ls then some ([],{st.bd key 1 with aR:=kU ⟨key,e,ls⟩ st.aR}.put dst ⟨.c true,.v (.one (.bs key n (P.cellsOf e)))⟩)else none
     |none=>none)else none)else match flat P 16 e with
   |some ks=>if decide (0<ks.length)&&((P.info? e).bind (·.zero)).isSome&&decide (n*ks.length<=16777216)&&decide (P.cellsOf e=ks.length)then
       (match mS ks n 0 ps with
       |some rows=>newRow st G key e ks [] (.lit rows) st.rows dst
       |none=>none)else none
   | none=>match L4 P 16 e with
     |some aH=>if decide (G = .c true)&&((P.info? e).bind (·.zero)).isSome&&decide (n*aH.length<=16777216)&&decide (P.cellsOf e=aH.length)then
         (match kH st aH n 0 ps with
         |some (rows,gone)=>if vC gone then Ap st key e aH [] (.yc rows) (st.rows.filter fun r=>!gone.contains r.id) st.aV dst else none
         |none=>none)else none
     |none=>none
 |_,_=>none
def pZ(G:BE):List BE->List Ev
 | []=>[]
 | n::ns=>match BE.under G n with
   |.c true=>pZ G ns
   |m=>.aG m::pZ G ns
def eV(lv:Nat)(i:IE)(key:Nat):Nat->List NK->List ag
 |_,[]=>[]
 |j,.c k::aH=>oU lv i j k::eV lv i key (j+1) aH
 |j,.s _ _::aH=>.s (key+j)::eV lv i key (j+1) aH
def D1(lv:Nat)(i:IE)(key:Nat)(all:List NK):Nat->List NK->List Ev
 |_,[]=>[]
 |j,.c _::aH=>D1 lv i key all (j+1) aH
 |j,.s _ _::aH=>.cu (key+j) (.sub lv i all j)::D1 lv i key all (j+1) aH
def jy(G:BE)(key:Nat):Nat->List NK->List Row
 |_,[]=>[]
 |j,.c _::aH=>jy G key (j+1) aH
 |j,.s e k::aH=>⟨key+j,e,[k],key+j,false,G⟩::jy G key (j+1) aH
def T5(P:Program)(st:St)(G:BE)(key:Nat)(dst:Option Tmp)(t:TypeId)(n:df)(i:IE)(j:Nat):Option (List Ev×St):=
 if(P.underlying t).isSome&&decide (0<n.aH.length)&&G.gZ n.g&&G.all st.has&&st.free key n.aH.length&&i.all st.has&&st.has n.lv then
   (if fG P t then(if j=0/\P.cellsOf t=n.aH.length then
       some (pZ G [(BE.le (.c 0) i).mk,(BE.lt i (.len n.lv)).mk]++D1 n.lv i key n.aH 0 n.aH,
         {st.bd key n.aH.length with rows:=cG (jy G key 0 n.aH) st.rows}.put dst ⟨G,.v (.agg (eV n.lv i key 0 n.aH))⟩)else none)
   else(match(eV n.lv i key 0 n.aH)[j]? with
     |some l=>if 0<P.cellsOf t then some (pZ G [(BE.le (.c 0) i).mk,(BE.lt i (.len n.lv)).mk]++D1 n.lv i key n.aH 0 n.aH,
         {st.bd key n.aH.length with rows:=cG (jy G key 0 n.aH) st.rows}.put dst ⟨G,.v (.one l)⟩)else none
     |none=>none))
 else none
def HM(P:Program)(st:St)(G:BE)(key:Nat)(dst:Option Tmp)(t:TypeId)(x:Operand):Option (List Ev×St):=
 match bc st G x with
 | some (.ep row sz i j)=>match bp st row with
   |some _=>none
   | none=>match dV st row with
     |some n=>if sz=n.aH.length then T5 P st G key dst t n i j else none
     |none=>none
 |_=>none
def zeroOf:CK->ag
 |.i k=>.i k (.c 0)
 |.b=>.b (.c false)
 |.f=>.fl (.c 0)
def L3(P:Program)(st:St)(key:Nat)(dst:Option Tmp)(op:Op):Option (List Ev×St):=
 match op with
 | .alloc e=>match nZ P e with
   |some z=>n5 st key e z.leaves dst
   |none=>none
 | .box e x=>match jX st (.c true) x with
   |some v=>n5 st key e v.leaves dst
   |none=>none
 | .store t a x=>match bc st (.c true) a,jX st (.c true) x with
   |some l,some v=>if v.leaves.length=P.cellsOf t/\0<P.cellsOf t then qM st l v.leaves key dst else none
   |_,_=>none
 | .makeSlice t n c=>match P.underlying t,bc st (.c true) n,bc st (.c true) c with
   | some (.slice e),some (.i _ x),some (.i _ y)=>match ki P e,flat P 16 e,nZ P e with
     |some room,some ks,some z=>if decide (0<ks.length)&&decide (P.cellsOf e=ks.length)&&decide (z.leaves=ks.map zeroOf)then
         (if x=y then newRow st (.c true) key e ks [.aG (BE.le (.c 0) x).mk,.aG (BE.le x (.c (room:Int))).mk] (.rep x (List.replicate ks.length 0)) st.rows dst
         else newRow st (.c true) key e ks [.aG (BE.le (.c 0) x).mk,.aG (BE.le x y).mk,.aG (BE.le y (.c (room:Int))).mk] (.rep x (List.replicate ks.length 0)) st.rows dst)else none
     |_,_,_=>none
   |_,_,_=>none
 | .slice t x none (some h) none=>match P.underlying t,bc st (.c true) x,bc st (.c true) h with
   | some (.slice e),some (.s a),some (.i _ n)=>match bp st a with
     |some ra=>if ra.own&&decide (ra.g = .c true)&&decide (ra.e=e)&&decide (P.cellsOf e=ra.ks.length)then
         newRow st (.c true) key e ra.ks [.aG (BE.le (.c 0) n).mk,.aG (BE.le n (.len ra.lv)).mk] (.take ra.lv n) (st.rows.filter fun r=>decide (r.id≠a)) dst else none
     | none=>match dV st a with
       |some ra=>if ra.own&&decide (ra.e=e)&&decide (P.cellsOf e=ra.aH.length)then
           Ap st key e ra.aH [.aG (BE.le (.c 0) n).mk,.aG (BE.le n (.len ra.lv)).mk] (.take ra.lv n) st.rows (st.aV.filter fun r=>decide (r.id≠a)) dst else none
       |none=>none
   |_,_,_=>none
 | .call {callee:=.builtin .append,args,argTypes}=>match args.toList,argTypes.toList with
   | [x,y],[t,t']=>if t=t' then(match P.underlying t with
     | some (.slice e)=>match ki P e,bc st (.c true) x,bc st (.c true) y with
       | some room,some .jR,some (.s b)=>match bp st b with
         |some rb=>if decide (rb.g = .c true)&&decide (rb.e=e)&&decide (P.cellsOf e=rb.ks.length)then
             newRow st (.c true) key e rb.ks [.aG (BE.le (.len rb.lv) (.c (room:Int))).mk] (.cp rb.lv) st.rows dst else none
         | none=>match dV st b with
           |some rb=>if rb.own&&decide (rb.e=e)&&decide (P.cellsOf e=rb.aH.length)then
               Ap st key e rb.aH [.aG (BE.le (.len rb.lv) (.c (room:Int))).mk] (.cp rb.lv) st.rows st.aV dst else none
           |none=>none
       | some room,some (.cs a),some (.s b)=>match bp st a,bp st b with
         |some ra,some rb=>if decide (ra.g = .c true)&&decide (rb.g = .c true)&&decide (ra.e=e)&&decide (rb.e=e)&&decide (ra.ks=rb.ks)&&decide (P.cellsOf e=ra.ks.length)then
             newRow st (.c true) key e ra.ks [.aG (BE.lt (.c 0) (.len rb.lv)).mk,.aG (BE.le (IE.add (.len ra.lv) (.len rb.lv)).mk (.c (room:Int))).mk] (.app ra.lv rb.lv) st.rows dst else none
         |_,_=>none
       | some room,some (.s a),some (.s b)=>match bp st a,bp st b with
         |some ra,some rb=>if ra.own&&decide (ra.g = .c true)&&decide (rb.g = .c true)&&decide (ra.e=e)&&decide (rb.e=e)&&decide (ra.ks=rb.ks)&&decide (a≠b)&&decide (P.cellsOf e=ra.ks.length)then
             newRow st (.c true) key e ra.ks [.aG (BE.le (IE.add (.len ra.lv) (.len rb.lv)).mk (.c (room:Int))).mk] (.app ra.lv rb.lv) (st.rows.filter fun r=>decide (r.id≠a)) dst else none
         | none,none=>match dV st a,dV st b with
           |some ra,some rb=>if ra.own&&rb.own&&decide (ra.e=e)&&decide (rb.e=e)&&decide (ra.aH=rb.aH)&&decide (a≠b)&&decide (P.cellsOf e=ra.aH.length)then
               Ap st key e ra.aH [.aG (BE.le (IE.add (.len ra.lv) (.len rb.lv)).mk (.c (room:Int))).mk] (.app ra.lv rb.lv) st.rows (st.aV.filter fun r=>decide (r.id≠a)) dst else none
           |_,_=>none
         |_,_=>none
       |_,_,_=>none
     |_=>none)else none
   |_,_=>none
 | .call {callee:=.builtin .copy,args,argTypes}=>match args.toList,argTypes.toList with
   | [x,y],[t,t']=>if t=t' then(match P.underlying t,bc st (.c true) x,bc st (.c true) y with
     | some (.slice e),some (.s a),some (.s b)=>match bp st a,bp st b with
       |some ra,some rb=>if ra.own&&decide (ra.g = .c true)&&decide (rb.g = .c true)&&decide (ra.ks=rb.ks)&&decide (a≠b)&&decide (P.cellsOf e=ra.ks.length)&&(P.info? e).isSome&&st.free key 1 then
           some ([.cu key (.LZ ra.lv rb.lv)],{st.bd key 1 with rows:=cQ {ra with lv:=key} (st.rows.filter fun r=>decide (r.id≠a)) }.put dst ⟨.c true,.v (.one (.i .i64 (.min (.len ra.lv) (.len rb.lv))))⟩)else none
       |_,_=>none
     |_,_,_=>none)else none
   |_,_=>none
 | .call {callee:=.builtin .clear,args,argTypes}=>match args.toList,argTypes.toList with
   | [x],[t]=>match P.underlying t,bc st (.c true) x with
     | some (.slice e),some (.s a)=>match bp st a,nZ P e with
       |some ra,some z=>if ra.own&&decide (ra.g = .c true)&&decide (P.cellsOf e=ra.ks.length)&&(P.info? e).isSome&&decide (z.leaves=ra.ks.map zeroOf)&&st.free key 1 then
           some ([.cu key (.rep (.len ra.lv) (List.replicate ra.ks.length 0))],{st.bd key 1 with rows:=cQ {ra with lv:=key} (st.rows.filter fun r=>decide (r.id≠a)) }.put dst ⟨.c true,.Fu []⟩)else none
       |_,_=>none
     |_,_=>none
   |_,_=>none
 | .convert src Jt x=>match P.underlying src,P.underlying Jt,bc st (.c true) x with
   | some .string,some (.slice e),some (.str bs)=>match P.underlying e with
     |some (.int .u8)=>if(P.info? e).isSome&&decide (P.cellsOf e=1)&&decide (bs.length<=4096)&&st.free key 1 then some ([.cu key (.lit (bs.map fun b=>[Sum.inl (IE.c (b.toNat:Int))]))],{st.bd key 1 with rows:=cQ ⟨key,e,[.i .u8],key,false,.c true⟩ st.rows}.put dst ⟨.c true,.v (.one (.kb key bs))⟩)else none
     |_=>none
   |_,_,_=>none
 |_=>none
def CT.u5:CT->Bool
 |.n _ _=>true
 |_=>false
def CT.ZA:CT->Bool
 |.s _ _=>true
 |_=>false
def pg(cs:List CT):Bool:=!cs.any CT.u5||(!cs.any CT.ZA&&decide (cs.countP CT.u5<=1))
def width(vs:List VT):Nat:=(bt vs).length
def bj(vs:List V1):List ag:=vs.flatMap V1.leaves
def ch(ls:List ag):List Nat:=ls.filterMap fun| .s r=>some r|_=>none
def gF:List VT->Bool
 | []=>true
 |.ptr _ _::_=>false
 |.fn _ _::_=>false
 |.one (.n _ _)::_=>false
 |.one _::ts=>gF ts
 |.agg cs::ts=>cs.all (fun| .n _ _=>false|_=>true)&&gF ts
def ei:List VT->Bool
 | []=>true
 |.ptr _ _::_=>false
 |.fn _ _::_=>false
 |_::ts=>ei ts
def VA(st:St)(key:Nat)(dst:Option Tmp)(f:FuncId)(sg:bJ)(vs:List V1):Option (List Ev×St):=
 match mf st (.c true) sg.args vs with
 | some ds=>
   let gone:=ch ((bj vs).take sg.cons)
   if st.free key (width sg.res)&&gF sg.args&&gF sg.res&&vC gone&&gone.all (fun r=>match bp st r with|some x=>x.own&&decide (x.g = .c true)|none=>false)then
     some ([.call f (.c true) ds sg.res key],{st.bd key (width sg.res)with rows:=cG (bR (.c true) key sg.res).2 (st.rows.filter fun r=>!gone.contains r.id) }.put dst ⟨.c true,og (bR (.c true) key sg.res).1⟩)else none
 |none=>none
def JD(aK:jA)(st:St)(G:BE)(key:Nat)(dst:Option Tmp)(f:FuncId)(vs:List V1):Option (List Ev×St):=
 match aK.sig f with
 | some sg=>if sg.cons≠0 then(if G = .c true then VA st key dst f sg vs else none)else match mf st G sg.args vs with
   |some ds=>if st.free key (width sg.res)&&pg (bt sg.res)&&G.all st.has then
       some ([.call f G ds sg.res key],{st.bd key (width sg.res)with rows:=cG (bR G key sg.res).2 st.rows,aV:=p5 (dj (decide (G=BE.c true)) G key (bt sg.res)) st.aV}.put dst ⟨G,og (bR G key sg.res).1⟩)else none
   |none=>none
 |none=>none
def cop(aK:jA)(st:St)(G:BE)(key:Nat)(dst:Option Tmp)(f:FuncId)(args:List Operand):Option (List Ev×St):=
 match ko st G args with
 |some vs=>JD aK st G key dst f vs
 |none=>none
def RL(agg:Bool)(ls:List cO):V1:=if agg then .agg (ls.map cO.up)else .one ((ls.map cO.up).headD .jR)
def VB(aK:jA)(st:St)(G:BE)(key:Nat)(dst:Option Tmp)(x:Operand)(args:List Operand):Option (List Ev×St):=
 match bc st G x,ko st G args with
 |some (.fn g cS),some vs=>JD aK st G key dst g (vs++cS.map fun c=>.one (oX c))
 |some (.f g),some vs=>JD aK st G key dst g vs
 |some (.bf g agg ls),some vs=>if agg||decide (ls.length=1)then JD aK st G key dst g (RL agg ls::vs)else none
 |_,_=>none
def guardOf(ops:Array Oper)(st:St)(o:Oper):Option BE:=
 match o.guard with
 |none=>some (.c true)
 | some (j,want)=>match(ops[j]?).bind (·.dst)with
   | some t=>match st.tmps[t]? with
     |some (some ⟨g,.v (.one (.b p))⟩)=>some (BE.and g (if want then p else(BE.not p).mk)).mk
     |_=>none
   |none=>none
def St.forget(st:St)(dst:Option Tmp):St:=
 match dst with
 |some d=>{st with tmps:=st.tmps.set d none}
 |none=>st
def Eb(P:Program)(aK:jA)(st:St)(G:BE)(dst:Option Tmp)(t:TypeId)(g:Nat):Option (List Ev×St):=
 match aK.wE.find? (fun p=>p.1==g)with
 | some p=>match qy P t (p.2.map fun n=>ag.i .i64 (.c n)) 0 with
   |some v=>(st.JC dst ⟨G,.v v⟩).map fun aW=>([],aW)
   |none=>none
 |none=>none
def qU(P:Program)(aK:jA)(ops:Array Oper)(st:St)(key:Nat)(o:Oper):Option (List Ev×St):=
 match guardOf ops st o with
 |none=>none
 |some (.c false)=>some ([],st.put o.dst jw)
 | some G=>match Vm P aK.fy st G o.op with
   | some (ns,sv)=>match st.JC o.dst ⟨G,sv⟩with
     |some aW=>some (pZ G ns,aW)
     |none=>none
   | none=>match o.op with
     |.assign (.const _)=>some ([],st.forget o.dst)
     |.call {callee:=.value (.func f),args,..}=>cop aK st G key o.dst f args.toList
     |.call {callee:=.value (.tmp t),args,..}=>VB aK st G key o.dst (.tmp t) args.toList
     |.buildSlice t n parts=>aas P aK.bsl st G key o.dst t n parts
     |.load t (.global g)=>Eb P aK st G o.dst t g
     |.load t x=>HM P st G key o.dst t x
     |op=>if G = .c true then L3 P st key o.dst op else none
def fY:Nat:=512
def HN:Nat:=16
inductive Spec where
 |inl (g:FuncId) (vs:List V1)
 |val (x:V1)
 |aG (ok:BE) (e:IE)
 |JE (g:FuncId) (vs:List V1)
def idxOf(bs:List UInt8)(b:Int):Int:=match(List.range bs.length).find? fun i=>decide (((bs[i]?).map fun x=>(x.toNat:Int))=some b)with
 |some i=>(i:Int)
 |none=>-1
def uj(cS:List (Bool×Nat)):List V1:=cS.map fun c=>.one (oX c)
def vD(aK:jA)(st:St)(G:BE)(op:Op):Option Spec:=
 match op with
 | .call {callee:=.value (.func f),args,..}=>match ko st G args.toList with
   | some vs=>if cV st.has vs then
     (if aK.aG=some f then(match vs with
       | [.one (.b ok),.one (.i .i64 e)]=>some (.aG ok e)
       |_=>none)
     else if aK.vB=some f then(match vs with
       | [.one (.fn g cS)]=>some (.JE g (uj cS))
       |_=>none)
     else if aK.xp=some f then(match vs with
       | [.one (.str bs),.one (.i .u8 (.c b))]=>if 0<=b/\b<256 then some (.val (.one (.i .i64 (.c (idxOf bs b)))))else none
       |_=>none)
     else if aK.inl.contains f then some (.inl f vs)else none)else none
   |none=>none
 | .call {callee:=.value (.tmp t),args,..}=>match bc st G (.tmp t),ko st G args.toList with
   |some (.fn g cS),some vs=>if aK.inl.contains g&&cV st.has (vs++uj cS)then some (.inl g (vs++uj cS))else none
   |some (.f g),some vs=>if aK.inl.contains g&&cV st.has vs then some (.inl g vs)else none
   |some (.bf g agg ls),some vs=>if aK.inl.contains g&&cV st.has (RL agg ls::vs)&&(agg||decide (ls.length=1))then some (.inl g (RL agg ls::vs))else none
   |_,_=>none
 |_=>none
def aN.know(p:BE)(v:Bool)(s:aN):aN:=
 match s.sv with
 |.v (.one (.b x))=>if x=p then {s with sv:=.v (.one (.b (.c v))) }else if x=(BE.not p).mk then {s with sv:=.v (.one (.b (.c !v))) }else s
 |_=>s
def St.know(st:St)(p:BE)(v:Bool):St:={st with tmps:=st.tmps.map fun s=>s.map (aN.know p v) }
def mg(h:Option St)(st:St):Bool:=
 match h with
 |none=>true
 |some hs=>hs.aR.all (fun b=>decide (fo st b.id=some b))&&hs.rows.all (fun r=>decide (bp st r.id=some r))&&hs.aV.all (fun r=>st.aV.contains r)
def T6(h:Option St)(st:St)(e:IE):ar:=if mg h st&&e.all st.has then .fail e else .stuck ("given up" ++ (match h with
 |some hs=>String.join (hs.aR.filterMap fun b=>if fo st b.id=some b then none else some (" blk " ++ toString b.id))++String.join (hs.rows.filterMap fun b=>if bp st b.id=some b then none else some (" row " ++ toString b.id))
 |none=> ""))
def tm(st aW:St)(dst:Option Tmp)(sv:SV):St:={aW with tmps:=(st.put dst ⟨.c true,sv⟩).tmps}
def pj(fn:Func)(vs:List V1)(st:St):St:={st with tmps:=vs.map (fun v=>some ⟨.c true,.v v⟩)++List.replicate (fn.ntmps-vs.length) none}
def RM(st:St):St:={st with next:=st.next+fY,nD:=[] }
def aat(P:Program)(st:St):ResultVar->Option V1
 |.tmp t=>jX st (.c true) (.tmp t)
 | .cell a t=>match bc st (.c true) (.tmp a)with
   |some (.p id off)=>(A0 P st (.c true) t (.p id off)).map fun r=>r.2
   |_=>none
def qV(P:Program)(st:St):List ResultVar->Option (List V1)
 | []=>some []
 | r::rs=>match aat P st r,qV P st rs with
   |some v,some vs=>some (v::vs)
   |_,_=>none
def uk(P:Program)(bX:St)(W:List Nat)(st:St)(G:BE)(op:Op):Bool:=
 match op with
 | .load _ x=>match bc st G x with
   |some (.p id _)=>!W.contains id&&bX.aR.any (fun b=>b.id==id)
   |some (.pi id _ _ _ _)=>!W.contains id&&bX.aR.any (fun b=>b.id==id)
   |some (.ep row _ _ _)=>!W.contains row&&decide (bp st row=bp bX row)
   |_=>false
 |_=>true
abbrev VC:=St->Nat->Oper->Option (List Ev×St)
def written(Aa:VC)(sd base:Nat):Nat->List Oper->St->Option (List (Nat×Nat))
 |_,[],_=>some []
 | i,o::rest,st=>match Aa st (base+i*sd) o with
   | some (_,aW)=>match written Aa sd base (i+1) rest aW with
     | some W=>match o.op with
       | .store _ a _=>match bc st (.c true) a with
         |some (.p id _)=>some ((i,id)::W)
         |some (.pi id _ _ _ _)=>some ((i,id)::W)
         |some (.ep row _ _ _)=>some ((i,row)::W)
         |_=>none
       | .call {callee:=.builtin .append,args,..}=>match args.toList with
         | x::_=>match bc st (.c true) x with
           |some (.s row)=>some ((i,row)::W)
           |some .jR=>some W
           |some (.cs _)=>some W
           |_=>none
         | []=>none
       | .slice _ x _ _ _=>match bc st (.c true) x with
         |some (.s row)=>some ((i,row)::W)
         |some _=>some W
         |_=>none
       |.call {callee:=.builtin .copy,..}=>none
       |.call {callee:=.builtin .clear,..}=>none
       |_=>some W
     |none=>none
   |none=>none
def um(W:List Nat)(st:St):ag->Bool
 |.p id _=>W.contains id&&(fo st id).isSome
 |.pi id _ _ _ _=>W.contains id&&(fo st id).isSome
 | .ep row _ _ _=>W.contains row&&(match bp st row with
   |some r=>r.own&&decide (r.g = .c true)
   |none=>false)
 | .s row=>W.contains row&&(match bp st row with
   |some r=>r.own&&decide (r.g = .c true)
   | none=>match dV st row with
     |some r=>r.own
     |none=>false)
 |_=>true
def yn(W:List Nat)(st:St)(op:Op):Bool:=
 match op with
 | .store _ a _=>match bc st (.c true) a with
   |some l=>um W st l
   |none=>true
 | .call {callee:=.builtin .append,args,..}=>match args.toList with
   | x::_=>match bc st (.c true) x with
     |some l=>um W st l
     |none=>true
   | []=>true
 |.call {callee:=.builtin .copy,..}=>false
 |.call {callee:=.builtin .clear,..}=>false
 |_=>true
def keeps(bX:St)(W:List Nat)(st:St):Bool:=
 bX.aR.all (fun b=>W.contains b.id||decide (fo st b.id=some b))&&bX.rows.all (fun r=>W.contains r.id||decide (bp st r.id=some r))
def lA(p:Nat->Bool):Sum IE BE->Bool
 |.inl e=>e.all p
 |.inr b=>b.all p
def bI.all(p:Nat->Bool):bI->Bool
 |.c x=>lA p x
 |.s k=>p k
 |.nil=>true
def cT.all(p:Nat->Bool):cT->Bool
 |.lit rows=>rows.all fun r=>r.all (lA p)
 |.app a b=>p a&&p b
 |.set a i _ x=>p a&&(i.all p&&lA p x)
 |.Aj a i xs=>p a&&(i.all p&&xs.all (lA p))
 |.Al a i _ xs=>p a&&(i.all p&&xs.all (lA p))
 |.take a n=>p a&&n.all p
 |.rep n _=>n.all p
 |.cp a=>p a
 |.sub a i _ _=>p a&&i.all p
 |.LZ a b=>p a&&p b
 |.yc rows=>rows.all fun r=>r.all (bI.all p)
def DE.all(p:Nat->Bool):DE->Bool
 |.i e=>e.all p
 |.b e=>e.all p
 |.l k=>p k
 |.nil=>true
 |.rows es=>es.all (IE.all p)
 |.kn xs=>xs.all (lA p)
def eF(a b:Nat):Nat:=(a*1000003+b*8191+12345)%4294967291
def IE.key:IE->Nat
 |.v k=>eF 1 k
 |.c n=>eF 2 (if n<0 then 2*n.natAbs+1 else 2*n.natAbs)
 |.add a b=>eF 3 (eF a.key b.key)
 |.sub a b=>eF 4 (eF a.key b.key)
 |.mul a b=>eF 5 (eF a.key b.key)
 |.tdiv a b=>eF 6 (eF a.key b.key)
 |.tmod a b=>eF 7 (eF a.key b.key)
 |.ediv a n=>eF 8 (eF a.key n)
 |.emod a n=>eF 9 (eF a.key n)
 |.shl a b=>eF 10 (eF a.key b.key)
 |.shr a b=>eF 11 (eF a.key b.key)
 |.wrap _ a=>eF 12 a.key
 |.max a b=>eF 13 (eF a.key b.key)
 |.min a b=>eF 14 (eF a.key b.key)
 |.bits _ _ a b=>eF 15 (eF a.key b.key)
 |.len k=>eF 16 k
 |.get k i j=>eF 17 (eF (eF k j) i.key)
 |.lh i n a b=>eF 18 (eF (eF i.key n) (eF a.key b.key))
def BE.key:BE->Nat
 |.v k=>eF 21 k
 |.c x=>if x then 22 else 23
 |.lt a b=>eF 24 (eF a.key b.key)
 |.le a b=>eF 25 (eF a.key b.key)
 |.eq a b=>eF 26 (eF a.key b.key)
 |.not a=>eF 27 a.key
 |.and a b=>eF 28 (eF a.key b.key)
 |.or a b=>eF 29 (eF a.key b.key)
 |.iff a b=>eF 30 (eF a.key b.key)
 |.qu a=>eF 31 a.key
def outside(base n:Nat):Nat->Bool:=fun k=>decide (k<base)||decide (base+n<=k)
def other(id:Nat):Nat->Bool:=fun k=>decide (k≠id)
def indep(sig:FuncId->Option bJ)(e e2:Ev):Bool:=
 match e2 with
 | .cu id op=>(match e with
   |.call _ g args res base=>op.all (outside base (bt res).length)&&(outside base (bt res).length id&&(g.all (other id)&&args.all (DE.all (other id))))
   |.aG p=>p.all (other id)
   |.cu rY Rc=>decide (id≠rY)&&(op.all (other rY)&&Rc.all (other id))
   |.dh p e=>p.all (other id)&&e.all (other id))
 | .aG q=>(match e with
   |.aG _=>true
   |.call _ _ _ res base=>q.all (outside base (bt res).length)
   |.dh _ _=>true
   |.cu id _=>q.all (other id))
 | .call f' g' yp qj gO=>(match e with
   |.call f g args res base=>(decide (gO+(bt qj).length<=base)||decide (base+(bt res).length<=gO))&&(decide ((sig f').map (·.res)=some qj)&&(g'.all (outside base (bt res).length)&&(yp.all (DE.all (outside base (bt res).length))&&(g.all (outside gO (bt qj).length)&&args.all (DE.all (outside gO (bt qj).length))))))
   |.dh p e=>decide ((sig f').map (·.res)=some qj)&&(p.all (outside gO (bt qj).length)&&e.all (outside gO (bt qj).length))
   |_=>false)
 | .dh p' e'=>(match e with
   |.dh p e=>decide (e=e')
   |_=>false)
def Ev.JF:Ev->Nat×Nat
 |.aG p=>(0,p.key)
 |.cu id _=>(1,id)
 |.call _ _ _ _ b=>(2,b)
 |.dh p _=>(3,p.key)
def VD(a b:Nat×Nat):Bool:=decide (a.1<b.1)||(decide (a.1=b.1)&&decide (a.2<b.2))
def Bd(sig:FuncId->Option bJ):List Ev->Nat->List Ev->Nat->Nat×Nat->Nat
 |_,_,[],b,_=>b
 |pre,i,e::es,b,r=>if VD e.JF r&&pre.all (fun e1=>indep sig e1 e)then Bd sig (e::pre) (i+1) es i e.JF else Bd sig (e::pre) (i+1) es b r
def HO(sig:FuncId->Option bJ):Nat->List Ev->List Ev
 |0,es=>es
 |_+1,[]=>[]
 | n+1,e::es=>match(e::es)[Bd sig [e] 1 es 0 e.JF]? with
   |some x=>if((e::es).take (Bd sig [e] 1 es 0 e.JF)).all (fun e1=>indep sig e1 x)then x::HO sig n ((e::es).eraseIdx (Bd sig [e] 1 es 0 e.JF))else e::es
   |none=>e::es
def yq(sig:FuncId->Option bJ)(es:List Ev):List Ev:=HO sig es.length es
abbrev tn:=List (Nat×Nat×St×(List Ev×St))
def Ec(n m:Nat)(st:St):tn->Option (List Ev×St)
 | []=>none
 |(n',m',jB,r)::T=>if(Nat.beq m' m&&Nat.beq n' n)&&decide (jB=st)then some r else Ec n m st T
def tb(m i:Nat):Bool:=Nat.beq (Nat.land (Nat.shiftRight m i) 1) 1
def pn(m i:Nat):Nat:=Nat.lor m (Nat.pow 2 i)
def bitsOf(p:Nat->Bool):List Nat->Nat
 | []=>0
 |j::r=>bif p j then Nat.lor (Nat.pow 2 j) (bitsOf p r)else bitsOf p r
structure RO where
 i:Nat
 o:Oper
 dep:Nat
 bad:Nat
def Cl(ops:Array Oper)(i:Nat)(o:Oper):RO:=⟨i,o,bitsOf (fun j=>o.after.toList.any fun e=>Region.binds .any e&&Nat.beq e.on j) (List.range ops.size),
 bitsOf (fun j=>!(Nat.beq j i) && !(match ops[j]? with
   |some oj=>oj.after.toList.any (fun e=>Region.binds .any e&&Nat.beq e.on i)||o.apart ops oj
   |none=>true)) (List.range ops.size)⟩
def jC(ops:Array Oper):List RO:=(List.range ops.size).filterMap fun i=>(ops[i]?).map (Cl ops i)
def nI(ops:Array Oper):Bool:=ops.toList.all fun o=>o.after.toList.all fun e=>!Region.binds .any e||Nat.blt e.on ops.size
def RO.ready(m:Nat)(r:RO):Bool:=!tb m r.i&&Nat.beq (Nat.land r.dep m) r.dep
def RO.free(m:Nat)(r:RO):Bool:=Nat.beq (Nat.land r.bad m) r.bad
def sW(acc:List Nat)(es:List Edge):Nat:=es.foldl (fun m e=>if Region.binds .any e&&Nat.blt e.on acc.length then Nat.lor (pn m e.on) (acc.getD e.on 0)else m) 0
def JG(ops:List Oper):List Nat:=ops.foldl (fun acc o=>acc++[sW acc o.after.toList]) []
structure WQ where
 ws:List (Nat×Nat×Nat)
 al:Option (List Nat)
def WQ.wf(q:WQ)(m:Nat):List Nat:=match q.al with
 |some W=>W
 |none=>(q.ws.filter fun p=>tb m p.1).map fun p=>p.2.1
def WQ.wt(q:WQ)(i:Nat):List Nat:=match q.al with
 |some W=>W
 |none=>(q.ws.filter fun p=>!tb p.2.2 i).map fun p=>p.2.1
def WQ.ok(q:WQ)(i:Nat):Bool:=match q.al with
 |some _=>true
 |none=>q.ws.all fun p=>!Nat.beq p.1 i
def L5(ops:Array Oper)(W:List (Nat×Nat)):WQ:=⟨(W.filter fun p=>Nat.blt p.1 ops.size).map fun p=>(p.1,p.2,(JG ops.toList).getD p.1 0),none⟩
def lB(P:Program)(aK:jA)(ops:Array Oper)(bX:St)(q:WQ)(m:Nat)(st:St):List RO->Option (RO×List Ev×St)
 | []=>none
 |r::rs=>if r.free m&&q.ok r.i then(match guardOf ops st r.o with
     |none=>lB P aK ops bX q m st rs
     | some G=>if uk P bX (q.wt r.i) st G r.o.op then(match Vm P aK.fy st G r.o.op with
       | some (ns,sv)=>match st.JC r.o.dst ⟨G,sv⟩with
         |some aW=>some (r,pZ G ns,aW)
         |none=>none
       |none=>lB P aK ops bX q m st rs)else lB P aK ops bX q m st rs)else lB P aK ops bX q m st rs
def yt(aK:jA)(Aa:VC)(bX:St)(wf:Nat->List Nat)(sd base:Nat)(st:St)(next:Nat->St->tn->Option ((List Ev×St)×tn))(r:RO)(T:tn):Option ((List Ev×St)×tn):=
 if yn (wf r.i) st r.o.op&&keeps bX (wf r.i) st then(match Aa st (base+r.i*sd) r.o with
   | some (cN,aW)=>match next r.i aW T with
     |some ((xj,Jj),T')=>some ((yq aK.sig (cN++xj),Jj),T')
     |none=>none
   |none=>none)else none
def Ed(go:RO->tn->Option ((List Ev×St)×tn))(x:List Ev×St):List RO->tn->Option tn
 | [],T=>some T
 | i::is,T=>match go i T with
   |some (y,T')=>if y=x then Ed go x is T' else none
   |none=>none
def explore(P:Program)(aK:jA)(Aa:VC)(ops:Array Oper)(jZ:List RO)(fin:Option Nat)(bX:St)(q:WQ)(sd base:Nat):Nat->Nat->St->tn->Option ((List Ev×St)×tn)
 | 0,m,st,T=>match fin with
   | none=>(match jZ.filter (RO.ready m)with
     | []=>some (([],st),T)
     |_::_=>none)
   |some l=>if Nat.beq m l then some (([],st),T)else none
 | n+1,m,st,T=>
   match jZ.filter (RO.ready m)with
   | []=>(match fin with
     |none=>some (([],st),T)
     |some _=>none)
   | r::rs=>match lB P aK ops bX q m st (r::rs)with
     | some (r',cN,aW)=>match explore P aK Aa ops jZ fin bX q sd base n (pn m r'.i) aW T with
       |some ((xj,Jj),T')=>some ((cN++xj,Jj),T')
       |none=>none
     | none=>match Ec (n+1) m st T with
       |some x=>some (x,T)
       | none=>match yt aK Aa bX (fun i=>q.wf (pn m i)) sd base st (fun i aW T=>explore P aK Aa ops jZ fin bX q sd base n (pn m i) aW T) r T with
         | some (x,T')=>match Ed (yt aK Aa bX (fun i=>q.wf (pn m i)) sd base st (fun i aW T=>explore P aK Aa ops jZ fin bX q sd base n (pn m i) aW T)) x rs T' with
           |some T''=>some (x,(n+1,m,st,x)::T'')
           |none=>none
         |none=>none
def noW(bX st:St):Op->Bool
 | .store _ a _=>match bc st (.c true) a with
   |some (.p id _)=>!(bX.has id)&&(fo st id).isSome
   |_=>false
 |.call {callee:=.builtin .append,..}=>false
 |.call {callee:=.builtin .copy,..}=>false
 |.call {callee:=.builtin .clear,..}=>false
 |_=>true
def L6(Ar key:Nat)(st:St):Nat:=st.nD.foldl (fun m d=>if decide (key<=d.1)&&decide (d.1<Ar)then max m d.2 else m) key
abbrev qW:=St->Nat->Option Tmp->Spec->Option (List Ev×St)
def HP(P:Program)(aK:jA)(rec:qW)(ops:Array Oper)(st:St)(key:Nat)(o:Oper):Option (List Ev×St):=
 match guardOf ops st o with
 | some (.c true)=>match vD aK st (.c true) o.op with
   |some sp=>rec st key o.dst sp
   |none=>qU P aK ops st key o
 |_=>qU P aK ops st key o
def RN(P:Program)(aK:jA)(rec:qW)(ops:Array Oper)(bX:St):VC:=fun st key o=>if noW bX st o.op then HP P aK rec ops st key o else none
def yu(P:Program)(aK:jA)(rec:qW)(ops:Array Oper)(Ar:Nat)(bX:St):List Oper->Nat->St->Option (List Ev×St×Nat)
 | [],key,st=>some ([],st,key)
 | o::rest,key,st=>if noW bX st o.op then(match HP P aK rec ops st key o with
   | some (cN,jB)=>match yu P aK rec ops Ar bX rest (L6 Ar key jB) jB with
     |some (xj,tt,sJ)=>some (cN++xj,tt,sJ)
     |none=>none
   |none=>none)else none
def Cm(P:Program)(aK:jA)(rec:qW)(Ar:Nat)(bX:St):Code->Nat->St->Option (List Ev×St×Nat)
 |.skip,key,st=>some ([],st,key)
 | .seq a b,key,st=>match Cm P aK rec Ar bX a key st with
   | some (cN,jB,JH)=>match Cm P aK rec Ar bX b JH jB with
     |some (xj,tt,JI)=>some (cN++xj,tt,JI)
     |none=>none
   |none=>none
 |.region _ ops false,key,st=>yu P aK rec ops Ar bX ops.toList key st
 | .region _ ops true,key,st=>if Region.noSelect ops&&P.follows .mixedOrders&&nI ops then(match written (RN P aK rec ops bX) HN key 0 ops.toList st with
   | some W=>match explore P aK (RN P aK rec ops bX) ops (jC ops) none st (L5 ops W) HN key ops.size 0 st []with
     |some ((cN,aW),_)=>some (cN,aW,L6 Ar key aW)
     |none=>none
   |none=>none)else none
 |_,_,_=>none
def rZ(P:Program)(aK:jA)(rec:qW)(Ar:Nat)(bX:St):Code->Nat->St->Option (List Ev×St×Nat)
 | .seq a b,key,st=>match Cm P aK rec Ar bX a key st with
   | some (cN,jB,JH)=>match rZ P aK rec Ar bX b JH jB with
     |some (xj,tt,JI)=>some (cN++xj,tt,JI)
     |none=>none
   |none=>none
 |.ret,key,st=>some ([],st,key)
 |c,key,st=>Cm P aK rec Ar bX c key st
def mU(P:Program)(aK:jA)(Ar:Nat):Nat->qW
 |0,_,_,_,_=>none
 |_+1,st,_,dst,.aG ok e=>if mg aK.dM st then some ([.dh ok e],st.put dst ⟨.c true,.Fu []⟩)else none
 | n+1,st,key,dst,.inl g vs=>match P.funcs[g]? with
   | some fn=>match fn.body with
     | some c=>if fn.name == "runtime.NumGoroutine" then none else match rZ P aK (mU P aK Ar n) Ar st c key (pj fn vs st)with
       | some (cN,aW,_)=>match qV P aW fn.results.toList with
         |some rv=>if cV aW.has rv then some (cN,tm st aW dst (og rv))else none
         |none=>none
       |none=>none
     |none=>none
   |none=>none
 |_+1,_,_,_,.JE _ _=>none
 |_+1,st,_,dst,.val x=>some ([],st.put dst ⟨.c true,.v x⟩)
def kA(P:Program)(aK:jA)(ops:Array Oper)(st:St)(key:Nat)(o:Oper):Option (List Ev×St):=
 match guardOf ops st o with
 | some (.c true)=>match vD aK st (.c true) o.op with
   |some sp=>mU P aK (key+fY) 4 st key o.dst sp
   |none=>qU P aK ops st key o
 |_=>qU P aK ops st key o
def qX(n:Nat)(st:St):Nat:=st.nD.foldl (fun m d=>max m d.2) n
def sa(st:St)(r:List Ev×St):Option (List Ev×St):=
 if decide (r.2.next=st.next)then some (r.1,{r.2 with next:=qX st.next r.2,nD:=[] })else none
def uo(P:Program)(aK:jA)(ops:Array Oper)(st:St):Option (List Ev×St):=
 if Region.noSelect ops&&P.follows .mixedOrders&&nI ops then(match written (kA P aK ops) fY st.next 0 ops.toList st with
   | some W=>match explore P aK (kA P aK ops) ops (jC ops) none st (L5 ops W) fY st.next ops.size 0 st []with
     |some (r,_)=>sa st r
     |none=>none
   |none=>none)else none
def FV(st:St):List Nat:=st.aR.map (·.id)++(st.rows.map (·.id)++st.aV.map (·.id))
def nJ(m n:Nat):List Bool:=List.replicate m true++List.replicate (n-m) false
def Co(jZ:List RO)(m:Nat):Bool:=jZ.all fun r=>!tb m r.i||Nat.beq (Nat.land r.dep m) r.dep
def xB(P:Program)(aK:jA)(ops:Array Oper)(bX:St)(W:List Nat)(lo:Nat)(hi:Option Nat)(st:St):Option (List Ev×St):=
 match hi with
 |some hi=>if Co (jC ops) (Nat.pow 2 lo-1)&&decide (hi<ops.size)&&decide (lo<=hi)&&decide (((jC ops).filter (RO.ready (Nat.pow 2 hi-1))).map RO.i=[hi])then(match explore P aK (kA P aK ops) ops (jC ops) (some (Nat.pow 2 hi-1)) bX ⟨[],some W⟩ fY st.next (hi-lo) (Nat.pow 2 lo-1) st []with
     |some (r,_)=>sa st r
     |none=>none)else none
 |none=>if Co (jC ops) (Nat.pow 2 lo-1)&&decide (lo<=ops.size)then(match explore P aK (kA P aK ops) ops (jC ops) none bX ⟨[],some W⟩ fY st.next (ops.size-lo) (Nat.pow 2 lo-1) st []with
     |some (r,_)=>sa st r
     |none=>none)else none
def FW(bX:St)(W:List Nat)(st:St):Bool:=
 bX.aR.all (fun b=>W.contains b.id||decide (fo st b.id=some b))&&bX.rows.all (fun r=>W.contains r.id)
def oh(aK:jA)(st:St):St:=RM {st with aR:=kU ⟨st.next,aK.nH,[.i .i64 (.c 0)]⟩ st.aR}
def eW(aK:jA)(st:St):St:={oh aK st with aR:=(oh aK st).aR.filter fun b=>!aK.Ea.contains b.id}
def kJ(st:St)(id:Nat)(e:IE):St:={st with aR:=st.aR.map fun b=>if b.id=id then {b with cells:=[.i .i64 e] }else b}
def tu:List Ev->ar->ar
 | [],t=>t
 |.dh p e::es,t=>.ite p (tu es t) (.fail e)
 |e::es,t=>.ev e (tu es t)
abbrev Ex:=Option St->FuncId->List V1->St->(List V1->St->ar)->ar
def HQ(aK:jA)(h:Option St)(ex:Ex)(st:St)(dst:Option Tmp)(rest:St->ar):Spec->ar
 |.inl g vs=>ex h g vs st fun rv aW=>rest (tm st aW dst (og rv))
 |.aG ok e=>.ite ok (rest (st.put dst ⟨.c true,.Fu []⟩)) (T6 h st e)
 |.val x=>rest (st.put dst ⟨.c true,.v x⟩)
 |.JE g vs=>if aK.Ea.contains st.next then .stuck "drops" else .gi (st.next+1) (rest (tm st (kJ (eW aK st) st.next (.v (st.next+1))) dst (.v (.one (.i .i64 (.v (st.next+1)))))))
     (ex (some (eW aK st)) g vs (oh aK st) fun rv aW=>if decide (rv=[])&&decide (fo aW st.next=some ⟨st.next,aK.nH,[.i .i64 (.c 0)]⟩)then .pop (rest (tm st aW dst (.v (.one (.i .i64 (.c 0))))))else .stuck "try")
def jD(P:Program)(aK:jA)(h:Option St)(ops:Array Oper)(ex:Ex):List Oper->St->(St->ar)->ar
 | [],st,k=>k st
 | o::rest,st,k=>match guardOf ops st o with
   |none=>.stuck ("guard " ++ o.pos)
   | some G=>match vD aK st G o.op with
     | none=>(match qU P aK ops st st.next o with
       | some r=>match sa st r with
         |some (cN,aW)=>tu cN (jD P aK h ops ex rest aW k)
         |none=>.stuck "names"
       |none=>.stuck ("operation " ++ o.pos ++ " slot " ++ toString (o.dst.getD 0)))
     | some sp=>
       match G with
       |.c true=>HQ aK h ex st o.dst (fun aW=>jD P aK h ops ex rest aW k) sp
       |.c false=>jD P aK h ops ex rest (st.put o.dst jw) k
       |G=>.ite G (HQ aK h ex st o.dst (fun aW=>jD P aK h ops ex rest aW k) sp) (jD P aK h ops ex rest ((st.know G false).put o.dst jw) k)
def L7(P:Program)(aK:jA)(ops:Array Oper)(base:Nat):Nat->List Oper->St->String
 |_,[],_=> "all"
 | i,o::rest,st=>match kA P aK ops st (base+i*fY) o with
   |some (_,aW)=>L7 P aK ops base (i+1) rest aW
   |none=> "op " ++ toString i ++ " " ++ o.pos
def yv(aK:jA)(Aa:VC)(ops:Array Oper)(last:Bool)(base:Nat):Nat->Array Bool->St->Option (List Ev×St)
 |0,_,st=>some ([],st)
 | n+1,listed,st=>match(if last then(Region.ready .any ops listed).reverse else Region.ready .any ops listed)with
   | []=>some ([],st)
   | i::_=>match ops[i]? with
     |none=>none
     | some o=>match Aa st (base+i*fY) o with
       | some (cN,aW)=>match yv aK Aa ops last base n (listed.setIfInBounds i true) aW with
         |some (xj,Jj)=>some (yq aK.sig (cN++xj),Jj)
         |none=>none
       |none=>none
def adz(P:Program)(aK:jA)(ops:Array Oper)(st:St):String:=
 match yv aK (kA P aK ops) ops false st.next ops.size (Array.replicate ops.size false) st,yv aK (kA P aK ops) ops true st.next ops.size (Array.replicate ops.size false) st with
 |some x,some y=>if x=y then "same" else "evs " ++ toString (decide (x.1=y.1)) ++ " tmps " ++ toString (decide (x.2.tmps=y.2.tmps)) ++ " blks " ++ toString (decide (x.2.aR=y.2.aR)) ++ " rows " ++ toString (decide (x.2.rows=y.2.rows)) ++ " dom " ++ toString (decide (x.2.nD=y.2.nD))++(reprStr x.1).replace "Go.Sx." "" ++ " ---- " ++ (reprStr y.1).replace "Go.Sx." ""
 |some _,none=> "none 2" |none,_=> "none 1"
def uq(P:Program)(aK:jA)(h:Option St)(ops:Array Oper)(ex:Ex)(bX:St)(W:List Nat):List Nat->Nat->St->(St->ar)->ar
 | [],lo,st,k=>match xB P {aK with dM:=h} ops bX W lo none st with
   |some (cN,aW)=>tu cN (k aW)
   |none=>.stuck ("region, end " ++ toString lo ++ " " ++ ((ops[0]?).map (·.pos)).getD "")
 | p::ps,lo,st,k=>match xB P {aK with dM:=h} ops bX W lo (some p) st with
   | some (cN,aW)=>tu cN (match ops[p]? with
     |some o=>jD P aK h ops ex [o] aW fun tt=>if FW bX W tt then uq P aK h ops ex bX W ps (p+1) tt k else .stuck "region, kept"
     |none=>.stuck "tail")
   |none=>.stuck ("region, up to " ++ toString p ++ " " ++ ((ops[0]?).map (·.pos)).getD "" ++ " ready " ++ toString (Region.ready .any ops (nJ p ops.size).toArray) ++ " blocks" ++ String.join (st.aR.map fun b=> " " ++ toString b.id ++ ":T" ++ toString b.ty) ++ " " ++ L7 P {aK with dM:=h} ops st.next lo ((ops.toList.drop lo).take (p-lo)) st)
def fT:Code->Option Nat
 |.region id _ _=>some id
 | .seq a b=>match fT a with
   |some i=>some i
   |none=>fT b
 | .cond _ a b=>match fT a with
   |some i=>some i
   |none=>fT b
 |.block _ a=>fT a
 |.loop a=>fT a
 |.scope a=>fT a
 |_=>none
def Ee:Code->List Nat
 |.region _ ops _=>ops.toList.filterMap (·.dst)
 |.seq a b=>Ee a++Ee b
 |.cond _ a b=>Ee a++Ee b
 |.block _ a=>Ee a
 |.loop a=>Ee a
 |.scope a=>Ee a
 |_=>[]
structure Head where
 st:St
 entry:List DE
 ks:List CT
def gj(ds:List Nat)(hr:List (Nat×TypeId×List CK))(hn:List (Nat×TypeId×List NK)):Nat->Nat->List (Option aN)->List Row->List df->Option (List (Option aN)×List Row×List df×List DE×List CT×Nat)
 |_,id,[],rs,ns=>some ([],rs,ns,[],[],id)
 | t,id,s::rest,rs,ns=>match hr.find? (fun h=>h.1==t)with
   | some (_,e,ks)=>match s with
     | some ⟨.c true,.v (.one .jR)⟩=>if 0<ks.length then(match gj ds hr hn (t+1) (id+1) rest rs ns with
       |some (ss,fq,oY,es,cs,n)=>some (some ⟨.c true,.v (.one (.s id))⟩::ss,cQ ⟨id,e,ks,id,true,.c true⟩ fq,oY,.nil::es,.s e ks::cs,n)
       |none=>none)else none
     | some ⟨.c true,.v (.one (.s r))⟩=>match rs.find? (fun x=>x.id==r)with
       |some x=>if x.own&&decide (x.g = .c true)&&decide (x.e=e)&&decide (x.ks=ks)then
           (match gj ds hr hn (t+1) (id+1) rest (rs.filter fun y=>y.id≠r) ns with
           |some (ss,fq,oY,es,cs,n)=>some (some ⟨.c true,.v (.one (.s id))⟩::ss,cQ ⟨id,e,ks,id,true,.c true⟩ fq,oY,.l x.lv::es,.s e ks::cs,n)
           |none=>none)else none
       |none=>none
     |_=>none
   |none=>match hn.find? (fun h=>h.1==t)with
   | some (_,e,aH)=>match s with
     | some ⟨.c true,.v (.one .jR)⟩=>if 0<aH.length then(match gj ds hr hn (t+1) (id+1) rest rs ns with
       |some (ss,fq,oY,es,cs,n)=>some (some ⟨.c true,.v (.one (.s id))⟩::ss,fq,tj ⟨id,e,aH,id,.c true,true⟩ oY,.nil::es,.n e aH::cs,n)
       |none=>none)else none
     | some ⟨.c true,.v (.one (.s r))⟩=>match ns.find? (fun x=>x.id==r)with
       |some x=>if x.own&&decide (x.e=e)&&decide (x.aH=aH)then
           (match gj ds hr hn (t+1) (id+1) rest rs (ns.filter fun y=>y.id≠r)with
           |some (ss,fq,oY,es,cs,n)=>some (some ⟨.c true,.v (.one (.s id))⟩::ss,fq,tj ⟨id,e,aH,id,.c true,true⟩ oY,.l x.lv::es,.n e aH::cs,n)
           |none=>none)else none
       |none=>none
     |_=>none
   |none=>if ds.contains t then
       (match s with
       | some ⟨.c true,.v (.one (.i k e))⟩=>match gj ds hr hn (t+1) (id+1) rest rs ns with
         |some (ss,fq,oY,es,cs,n)=>some (some ⟨.c true,.v (.one (.i k (.v id)))⟩::ss,fq,oY,.i e::es,.c (.i k)::cs,n)
         |none=>none
       | some ⟨.c true,.v (.one (.b e))⟩=>match gj ds hr hn (t+1) (id+1) rest rs ns with
         |some (ss,fq,oY,es,cs,n)=>some (some ⟨.c true,.v (.one (.b (.v id)))⟩::ss,fq,oY,.b e::es,.c .b::cs,n)
         |none=>none
       | _=>match gj ds hr hn (t+1) id rest rs ns with
         |some (ss,fq,oY,es,cs,n)=>some (none::ss,fq,oY,es,cs,n)
         |none=>none)
     else match gj ds hr hn (t+1) id rest rs ns with
       |some (ss,fq,oY,es,cs,n)=>some (s::ss,fq,oY,es,cs,n)
       |none=>none
def dq(fC:List Nat)(base:Nat):Nat->List Row->List Row×List DE×List CT
 |_,[]=>([],[],[])
 |id,r::rs=>if fC.contains r.id&&decide (r.id<base)&&r.own&&decide (r.g = .c true)then
     ({r with lv:=id}::(dq fC base (id+1) rs).1,.l r.lv::(dq fC base (id+1) rs).2.1,.s r.e r.ks::(dq fC base (id+1) rs).2.2)
   else(r::(dq fC base id rs).1,(dq fC base id rs).2.1,(dq fC base id rs).2.2)
def po(l:ag):Option aN:=some ⟨.c true,.v (.one l)⟩
def dI:List gD->List (Option aN)
 | []=>[]
 |b::bs=>b.cells.map po++dI bs
def FX:Option aN->Option ag
 |some ⟨.c true,.v (.one l)⟩=>some l
 |_=>none
def mh:List (Option aN)->Option (List ag)
 | []=>some []
 | s::ss=>match FX s,mh ss with
   |some l,some ls=>some (l::ls)
   |_,_=>none
def yw:List gD->List (Option aN)->Option (List gD)
 | [],_=>some []
 | b::bs,ss=>match mh (ss.take b.cells.length),yw bs (ss.drop b.cells.length)with
   |some cs,some T7=>some ({b with cells:=cs}::T7)
   |_,_=>none
def Be(hs:List (Nat×Nat))(cr:List (Nat×Nat×TypeId×List CK))(st:St):Nat->List gD->List Nat×List (Nat×TypeId×List CK)×List (Nat×TypeId×List NK)
 |_,[]=>([],[],[])
 | t,b::bs=>
   let js:=(List.range b.cells.length).filter fun j=>hs.contains (b.id,j)
   let r:=Be hs cr st (t+b.cells.length) bs
   (js.map (t + ·)++r.1,(js.filterMap fun j=>match b.cells[j]? with
     |some (ag.s q)=>(bp st q).map fun x=>(t+j,x.e,x.ks)
     |some ag.jR=>(cr.find? fun x=>x.1==b.id&&x.2.1==j).map fun x=>(t+j,x.2.2.1,x.2.2.2)
     |_=>none)++r.2.1,(js.filterMap fun j=>match b.cells[j]? with
     | some (ag.s q)=>match bp st q with
       |some _=>none
       |none=>(dV st q).map fun x=>(t+j,x.e,x.aH)
     |_=>none)++r.2.2)
def FY(c:Code)(h:Hint)(st:St):Option Head:=
 let r:=Be h.cells h.aar st st.tmps.length st.aR
 match gj (Ee c++r.1) (h.rows++r.2.1) (h.aV++r.2.2) 0 st.next (st.tmps++dI st.aR) st.rows st.aV with
 |none=>none
 | some (ss,rs,ns,es,ks,n)=>match yw st.aR (ss.drop st.tmps.length)with
   |some bs=>some {st:={tmps:=ss.take st.tmps.length,aR:=bs,rows:=(dq h.fC st.next n rs).1,aV:=ns,next:=n+(dq h.fC st.next n rs).2.1.length,nD:=[] },entry:=es++(dq h.fC st.next n rs).2.1,ks:=ks++(dq h.fC st.next n rs).2.2}
   |none=>none
def nodupB:List Nat->Bool
 | []=>true
 |x::xs=>!xs.contains x&&nodupB xs
def yx(base id:Nat)(h l:ag):Option (List (DE×Option Nat)):=
 if h=l/\h.all (fun k=>decide (k<base))=true then some []else
 match h,l with
 |.i k (.v j),.i k' e=>if j=id/\k=k' then some [(.i e,none)]else none
 |.b (.v j),.b e=>if j=id then some [(.b e,none)]else none
 |_,_=>none
def yy(base:Nat)(st:St)(id:Nat)(h s:Option aN):Option (List (DE×Option Nat)):=
 match h with
 |none=>some []
 | some h=>if s=some h/\h.all (fun k=>decide (k<base))=true then some []else
   match h,s with
   | ⟨.c true,.v (.one (.s j))⟩,some ⟨.c true,.v (.one (.s r))⟩=>if j=id then(match bp st r with
     |some y=>some [(.l y.lv,some r)]
     | none=>match dV st r with
       |some y=>some [(.l y.lv,some r)]
       |none=>none)else none
   |⟨.c true,.v (.one (.s j))⟩,some ⟨.c true,.v (.one .jR)⟩=>if j=id then some [(.nil,none)]else none
   |⟨.c true,.v (.one a)⟩,some ⟨.c true,.v (.one b)⟩=>yx base id a b
   |_,_=>none
def om(base:Nat)(st:St):Nat->List (Option aN)->List (Option aN)->Option (List (DE×Option Nat))
 |_,[],[]=>some []
 | id,h::hs,s::ss=>match yy base st id h s with
   | some d=>match om base st (id+d.length) hs ss with
     |some ds=>some (d++ds)
     |none=>none
   |none=>none
 |_,_,_=>none
def sameShape(base:Nat)(st:St):List gD->Option (List gD)
 | []=>some []
 | h::hs=>match fo st h.id,sameShape base st hs with
   |some b,some bs=>if b.ty=h.ty/\h.id<base/\b.cells.length=h.cells.length then some (b::bs)else none
   |_,_=>none
def HR(base:Nat)(st:St)(L:List (DE×Option Nat))(x:Row):Bool:=
 if x.id<base then(if x.lv<base then decide (bp st x.id=some x)&&x.all (fun k=>decide (k<base))
   else x.own&&decide (x.g = .c true)&&(match L[x.lv-base]?,bp st x.id with
     |some (.l lv,none),some y=>y.own&&decide (y.g = .c true)&&decide (y.e=x.e)&&decide (y.ks=x.ks)&&decide (y.lv=lv)
     |_,_=>false))
 else decide (x.lv=x.id)&&x.own&&decide (x.g = .c true)&&(match L[x.id-base]? with
   | some (.l lv,some r)=>(match bp st r with
     |some y=>y.own&&decide (y.g = .c true)&&decide (y.e=x.e)&&decide (y.ks=x.ks)&&decide (y.lv=lv)
     |none=>false)
   |some (.nil,none)=>decide (0<x.ks.length)
   |_=>false)
def yz(base:Nat)(st:St)(L:List (DE×Option Nat))(x:df):Bool:=
 if x.id<base then decide (dV st x.id=some x)&&x.all (fun k=>decide (k<base))
 else decide (x.lv=x.id)&&x.own&&decide (x.g = .c true)&&(match L[x.id-base]? with
   | some (.l lv,some r)=>(match bp st r,dV st r with
     |none,some y=>y.own&&decide (y.e=x.e)&&decide (y.aH=x.aH)&&decide (y.lv=lv)
     |_,_=>false)
   |some (.nil,none)=>decide (0<x.aH.length)
   |_=>false)
def qY:CT->DE->Bool
 |.c (.i _),.i _=>true
 |.c .b,.b _=>true
 |.c .f,.i _=>true
 |.s _ _,.l _=>true
 |.s _ _,.nil=>true
 |.n _ _,.l _=>true
 |.n _ _,.nil=>true
 |_,_=>false
def sb:List CT->List DE->Bool
 | [],[]=>true
 |c::cs,d::ds=>qY c d&&sb cs ds
 |_,_=>false
def origins(L:List (DE×Option Nat)):List Nat:=L.filterMap (·.2)
def L9(base:Nat)(st:St):Nat->List Row->Option (List (DE×Option Nat))
 |_,[]=>some []
 |id,x::xs=>if x.id<base/\base<=x.lv then(if x.lv=id then(match bp st x.id,L9 base st (id+1) xs with
     |some y,some L=>some ((.l y.lv,none)::L)
     |_,_=>none)else none)else L9 base st id xs
def back(base:Nat)(ks:List CT)(h st:St):Option (List DE):=
 match sameShape base st h.aR with
 | some bs=>match om base st base (h.tmps++dI h.aR) (st.tmps++dI bs)with
   | some L1=>match L9 base st (base+L1.length) h.rows with
     | some L2=>if decide (h.tmps.length=st.tmps.length)&&(h.rows.all (HR base st (L1++L2))&&nodupB (origins (L1++L2))&&(origins (L1++L2)).all (fun r=>!(h.rows.any fun x=>decide (x.id<base)&&x.id==r) && !(h.aV.any fun x=>decide (x.id<base)&&x.id==r))&&sb ks ((L1++L2).map (·.1)))&&h.aV.all (yz base st (L1++L2))
       then some ((L1++L2).map (·.1))else none
     |none=>none
   |none=>none
 |none=>none
inductive K where
 |code (c:Code)
 |lP (id:Nat)
 |loop (c:Code)
 |xq (c:Code) (id base:Nat) (head:St) (ks:List CT)
def ur(id:Nat):List K->Option (List K)
 | []=>none
 |.lP rY::k=>if rY=id then some k else ur id k
 |_::k=>ur id k
def uu(id:Nat):List K->Bool
 | []=>false
 |.xq _ rY _ _ _::k=>rY==id||uu id k
 |_::k=>uu id k
def rowsOf:List V1->List Nat
 | []=>[]
 |v::vs=>(v.leaves.filterMap fun| .s r=>some r|_=>none)++rowsOf vs
def pq(res:List VT)(vs:List V1)(st:St):ar:=
 match res,vs with
 | [.ptr e ks],[.one (.p id 0)]=>(match fo st id with
   | some b=>if decide (b.ty=e)&&decide (0<ks.length)then(match dB ks b.cells with
     |some xs=>.ret [.kn xs]
     |none=>.stuck "ret. cells")else .stuck "ret. block"
   |none=>.stuck "ret. no block")
 | res,vs=>match mf st (.c true) res vs with
   |some ds=>if gF res&&nodupB (rowsOf vs)&&(rowsOf vs).all (fun r=>match bp st r with|some x=>x.own&&decide (x.g = .c true)|none=>false)
       then .ret ds else if ei res&&(bt res).any CT.u5&&pg (bt res)&&(rowsOf vs).all (fun r=>match bp st r,dV st r with|none,some x=>x.own|_,_=>false)
       then .ret ds else .stuck "ret. a row that is not own"
   |none=>.stuck "ret. types"
def mi(sg:bJ)(vs:List V1)(st:St):ar:=
 match mf st (.c true) sg.res vs with
 |some ds=>if gF sg.res&&vC (ch (bj vs))&&(ch (bj vs)).all (fun r=>match bp st r with
     |some x=>decide (x.g = .c true)&&(x.own||(decide (x.id<sg.cons)&&decide (x.lv=x.id)&&decide ((bt sg.args)[x.id]?=some (.s x.e x.ks))))
     |none=>false)
     then .ret ds else .stuck "ret. a row that is neither own nor handed over"
 |none=>.stuck "ret. types"
def RP(P:Program)(fn:Func)(st:St)(kr:List V1->St->ar):ar:=
 match qV P st fn.results.toList with
 |some vs=>if cV st.has vs then kr vs st else .stuck "ret. names"
 |none=>.stuck "ret. a result"
def ag.fix(k:Nat)(v:Int):ag->ag
 |.i kd (.v j)=>if j=k then .i kd (.c v)else .i kd (.v j)
 |l=>l
def V1.fix(k:Nat)(v:Int):V1->V1
 |.one l=>.one (l.fix k v)
 |.agg ls=>.agg (ls.map (ag.fix k v))
def SV.fix(k:Nat)(v:Int):SV->SV
 |.v x=>.v (x.fix k v)
 |.Fu xs=>.Fu (xs.map (V1.fix k v))
def St.fix(st:St)(k:Nat)(v:Int):St:=
 {st with tmps:=st.tmps.map (fun s=>s.map fun s=>{s with sv:=s.sv.fix k v}),aR:=st.aR.map fun b=>{b with cells:=b.cells.map (ag.fix k v) } }
def Ma(no:List (Nat×Int)):BE->Bool
 |.eq (.v k) (.c n)=>no.contains (k,n)
 |_=>false
def yA(k:Nat)(f:Int->ar)(d:ar):List Nat->ar
 | []=>d
 |v::vs=>.ite (.eq (.v k) (.c (v:Int))) (f (v:Int)) (yA k f d vs)
def FZ(k:Nat)(f:Int->ar):List Nat->ar
 | []=>.stuck "split"
 |v::vs=>.ite (.eq (.v k) (.c (v:Int))) (f (v:Int)) (FZ k f vs)
def Cp(go:St->ar):List (Nat×Nat×Nat)->St->ar
 | [],st=>go st
 |(_,x,m)::ps,st=>FZ x (fun v=>Cp go ps (st.fix x v)) (List.range m)
def gid(f:FuncId)(i:Nat):Nat:=f*1000+i
def mj:List K->List Nat
 | []=>[]
 |.xq _ id _ _ _::k=>id::mj k
 |_::k=>mj k
def Cq(P:Program)(aK:jA)(h:Option St)(ops:Array Oper)(draw:Bool)(tail:Option (List Nat×List Nat))(ex:Ex)(st:St)(k:St->ar):ar:=
 if draw then(match tail with
   |some (ps,kb)=>if Region.noSelect ops&&P.follows .mixedOrders&&nI ops then uq P aK h ops ex st ((FV st).filter fun i=>!kb.contains i) ps 0 st k else .stuck "region, select"
   | none=>(match uo P {aK with dM:=h} ops st with
     |some (cN,aW)=>tu cN (k aW)
     |none=>.stuck ("region " ++ ((ops[0]?).map (·.pos)).getD "" ++ " " ++ adz P {aK with dM:=h} ops st ++ " " ++ L7 P {aK with dM:=h} ops st.next 0 ops.toList st)))
 else jD P aK h ops ex ops.toList st k
def RQ(P:Program)(run:Option St->FuncId->Func->Code->St->(List V1->St->ar)->ar):Ex:=fun h g vs st kr=>match P.funcs[g]? with
 | some fn=>(match fn.body with
   |some c=>if fn.name == "runtime.NumGoroutine" then .stuck "NumGoroutine" else run h g fn c (pj fn vs st) kr
   |none=>.stuck "no body")
 |none=>.stuck "no function"
def Mb(base:Nat)(h st:St):String:=
 "again; cells:" ++ String.join (h.aR.map fun b=>match fo st b.id with
   | some c=>String.join ((List.range b.cells.length).filterMap fun j=>match b.cells[j]?,c.cells[j]? with
     |some x,some y=>if x=y||(match x with| .i _ (.v k)=>decide (base<=k)| .b (.v k)=>decide (base<=k)| .s k=>decide (base<=k)|_=>false)then none else some (" " ++ toString b.id ++ ":" ++ toString j)
     |_,_=>none)
   | none=> " no " ++ toString b.id) ++ "; slots:" ++ String.join ((List.range h.tmps.length).filterMap fun t=>match h.tmps[t]?,st.tmps[t]? with
     |some (some x),some y=>if some x=y then none else some (" " ++ toString t)
     |_,_=>none) ++ "; rows:" ++ String.join (h.rows.filterMap fun r=>if bp st r.id=some r||decide (base<=r.id)then none else some (" " ++ toString r.id))
def exec(P:Program)(aK:jA):Nat->Option St->List Nat->FuncId->Func->List K->St->(List V1->St->ar)->ar
 |0,_,_,_,_,_,_,_=>.stuck "fuel"
 |_+1,_,_,_,fn,[],st,kr=>RP P fn st kr
 |n+1,h,L,f,fn,.lP _::k,st,kr=>exec P aK n h L f fn k st kr
 |n+1,h,L,f,fn,.loop c::k,st,kr=>exec P aK n h L f fn (.code c :: .loop c::k) st kr
 | _+1,_,_,_,_,.xq _ id base hd ks::_,st,_=>match back base ks hd st with
   |some bO=>.again id bO
   |none=>.stuck (toString id ++ " " ++ Mb base hd st)
 | n+1,h,L,f,fn,.code c::k,st,kr=>match c with
   |.skip=>exec P aK n h L f fn k st kr
   |.label _=>exec P aK n h L f fn k st kr
   |.seq a b=>exec P aK n h L f fn (.code a :: .code b::k) st kr
   | .cond x a b=>match bc st (.c true) x with
     |some (.b (.c true))=>exec P aK n h L f fn (.code a::k) st kr
     |some (.b (.c false))=>exec P aK n h L f fn (.code b::k) st kr
     |some (.b p)=>if Ma aK.no p then exec P aK n h L f fn (.code b::k) st kr else .ite p (exec P aK n h L f fn (.code a::k) st kr) (exec P aK n h L f fn (.code b::k) st kr)
     |_=>.stuck "cond"
   |.block id c=>exec P aK n h L f fn (.code c :: .lP id::k) st kr
   | .loop c=>match(fT c).bind (fun i=>(aK.loops.find? (fun p=>p.1==gid f i)).map fun p=>(gid f i,p.2))with
     |none=>exec P aK n h L f fn (.code c :: .loop c::k) st kr
     | some (i,hn)=>match FY c hn st with
       |some hd=>if uu i k||L.contains i then .stuck "loop in itself" else .loop i hd.entry hd.ks st.next (exec P aK n h L f fn (.code c :: .xq c i st.next hd.st hd.ks::k) hd.st kr)
       |none=>.stuck "loop head"
   | .exit id=>match ur id k with
     |some k'=>exec P aK n h L f fn k' st kr
     |none=>.stuck "exit"
   |.ret=>RP P fn st kr
   | .region id ops draw=>
     let ex:Ex:=RQ P (fun h' g Li c aW ZB=>exec P aK n h' (L++mj k) g Li [.code c] aW ZB)
     let go:St->ar:=fun st=>Cq P aK h ops draw ((aK.T4.find? fun p=>p.1==gid f id).map (·.2)) ex st (fun aW=>exec P aK n h L f fn k aW kr)
     Cp go (aK.splits.filter fun p=>p.1==gid f id) st
   |_=>.stuck "code"
def kK(args:List VT):List V1×List Row:=
 let(vs,rows):=bR (.c true) 0 args
 (vs,rows.map fun r=>{r with own:=false})
def start(fn:Func)(args:List VT):St:=
 let(vs,rows):=kK args
 {tmps:=vs.map (fun v=>some ⟨.c true,.v v⟩)++List.replicate (fn.ntmps-vs.length) none,aR:=[],rows,aV:=dj false (.c true) 0 (bt args),next:=(bt args).length,nD:=[] }
def qZ(P:Program)(aK:jA)(f:FuncId)(fn:Func)(sg:bJ)(fuel:Nat):ar:=
 match fn.body with
 | some c=>
   let ret:=if sg.cons=0 then pq sg.res else mi sg
   match aK.Ck with
   |none=>exec P aK fuel none [] f fn [.code c] (start fn sg.args) ret
   |some (x,m)=>if decide (x<(start fn sg.args).next)then yA x (fun v=>exec P aK fuel none [] f fn [.code c] ((start fn sg.args).fix x v) ret)
       (exec P {aK with no:=(List.range m).map fun(v:Nat)=>(x,(v:Int)) } fuel none [] f fn [.code c] (start fn sg.args) ret) (List.range m)else .stuck "split"
 |none=>.stuck "no body"
def gP(ks:List BE):BE->Bool
 |.and a b=>ks.contains (.and a b)||(gP ks a&&gP ks b)
 |.or a b=>ks.contains (.or a b)||(gP ks a||gP ks b)
 |.c true=>true
 |p=>ks.contains p
def q3(ks:List BE):BE->BE
 |.or (.not g) n=>if gP ks g then n else .or (.not g) n
 |p=>p
def iL(p:BE)(ks:List BE):List BE:=
 match p with
 |.and a b=>.and a b::iL a (iL b ks)
 |p=>p::ks
def prune(ks:List BE):ar->ar
 |.ret vs=>.ret vs
 |.stuck _=>.stuck ""
 |.ev (.aG p) t=>if gP ks (q3 ks p)then prune ks t else .ev (.aG (q3 ks p)) (prune (iL (q3 ks p) ks) t)
 |.ev e t=>.ev e (prune [] t)
 |.ite c a b=>.ite c (prune (iL c ks) a) (prune ((BE.not c).mk::ks) b)
 |.loop id es kd base body=>.loop id es kd base (prune [] body)
 |.again id vs=>.again id vs
 |.fail e=>.fail e
 |.gi x tp t=>.gi x (prune [] tp) (prune ks t)
 |.pop t=>.pop (prune ks t)
def q4(l:List (FuncId×bJ)):FuncId->Option bJ:=fun f=>(l.find? fun p=>p.1==f).map (·.2)
theorem IE.bY(U:aA)(e:IE):e.mk.ae U=e.ae U:=by
 unfold IE.mk;split<;>simp[IE.ae];split<;>simp_all
theorem BE.bY(U:aA)(e:BE):e.mk.ae U=e.ae U:=by
 unfold BE.mk;split<;>simp only[BE.ae,IE.ae,Bool.not_not,Bool.true_and,Bool.false_and,Bool.and_true,Bool.or_false,Bool.false_or,Bool.true_or]
 all_goals first|rfl|(generalize BE.ae U _=y;cases y<;>rfl)
theorem BE.cj{U:aA}{G g:BE}(h:G.gZ g=true)(hG:G.ae U=true):g.ae U=true:=by
 induction G with
 | and x y nw nS=>
   unfold BE.gZ at h;simp only[BE.ae,ah]at hG;simp only[fU,aD]at h;rcases h with(rfl|rfl)|(h|h);rfl;simp[BE.ae,hG];exact nw h hG.1;exact nS h hG.2
 | _=>
   unfold BE.gZ at h;simp only[fU,aD]at h;rcases h with(rfl|rfl)|h;rfl;exact hG;cases h
theorem BE.AU{U:aA}{G n:BE}(hG:G.ae U=true)(h:(BE.under G n).ae U=true):n.ae U=true:=by
 unfold BE.under at h;split at h;exact h;simpa[BE.ae,hG]using h
theorem Rv{U:aA}{k:IntKind}{e:IE}(h:(inR k e).ae U=true):k.min<=e.ae U/\e.ae U<=k.max:=by
 unfold inR at h;split at h
 all_goals
   simp only[BE.ae,IE.ae,ah,aD]at h ⊢
   first|exact h|exact⟨qt h.1,qt h.2⟩
theorem IE.ak{p:Nat->Bool}{U ai:aA}(h:∀k,p k=true->U k=ai k):∀ {e:IE},e.all p=true->e.ae U=e.ae ai:=by
 intro e;induction e with
 |v k=>intro ha;simp only[IE.all]at ha;simp[IE.ae,h k ha]
 |c n=>intro _;rfl
 |len k=>intro ha;simp only[IE.all]at ha;simp[IE.ae,h k ha]
 |get k i j ih=>intro ha;simp only[IE.all,ah]at ha;simp[IE.ae,h k ha.1,ih ha.2]
 |lh i n a b sD sF Vg=>intro ha;simp only[IE.all,ah]at ha;simp[IE.ae,sD ha.1,sF ha.2.1,Vg ha.2.2]
 |ediv a n ih=>intro ha;simp only[IE.all]at ha;simp[IE.ae,ih ha]
 |emod a n ih=>intro ha;simp only[IE.all]at ha;simp[IE.ae,ih ha]
 |wrap k a ih=>intro ha;simp only[IE.all]at ha;simp[IE.ae,ih ha]
 |bits op k a b sD sF=>intro ha;simp only[IE.all,ah]at ha;simp[IE.ae,sD ha.1,sF ha.2]
 |_ a b sD sF=>intro ha;simp only[IE.all,ah]at ha;simp[IE.ae,sD ha.1,sF ha.2]
theorem BE.ak{p:Nat->Bool}{U ai:aA}(h:∀k,p k=true->U k=ai k):∀ {e:BE},e.all p=true->e.ae U=e.ae ai:=by
 intro e;induction e with
 |v k=>intro ha;simp only[BE.all]at ha;simp[BE.ae,h k ha]
 |c n=>intro _;rfl
 |not a ih=>intro ha;simp only[BE.all]at ha;simp[BE.ae,ih ha]
 |qu a=>intro ha;simp only[BE.all]at ha;simp[BE.ae,IE.ak h ha]
 |and a b sD sF=>intro ha;simp only[BE.all,ah]at ha;simp[BE.ae,sD ha.1,sF ha.2]
 |or a b sD sF=>intro ha;simp only[BE.all,ah]at ha;simp[BE.ae,sD ha.1,sF ha.2]
 |iff a b sD sF=>intro ha;simp only[BE.all,ah]at ha;simp[BE.ae,sD ha.1,sF ha.2]
 |lt a b=>intro ha;simp only[BE.all,ah]at ha;simp[BE.ae,IE.ak h ha.1,IE.ak h ha.2]
 |le a b=>intro ha;simp only[BE.all,ah]at ha;simp[BE.ae,IE.ak h ha.1,IE.ak h ha.2]
 |eq a b=>intro ha;simp only[BE.all,ah]at ha;simp[BE.ae,IE.ak h ha.1,IE.ak h ha.2]
structure a8(p:Nat->Bool)(U ai:aA)(ph aJ:Ph):Prop where
 e:∀k,p k=true->U k=ai k
 r:∀k,p k=true->ph.r k=aJ.r k
 v:∀k,p k=true->ph.v k=aJ.v k
variable {p:Nat->Bool}{U ai:aA}{ph aJ:Ph}
theorem cO.ak(h:a8 p U ai ph aJ):∀ {l:cO},l.all p=true->l.ae U ph=l.ae ai aJ:=by
 intro l ha;cases l with
 |i k e=>simp only[cO.all]at ha;simp[cO.ae,IE.ak h.e ha]
 |b e=>simp only[cO.all]at ha;simp[cO.ae,BE.ak h.e ha]
 |s row=>simp only[cO.all]at ha;simp[cO.ae,Ph.val,h.v _ ha]
 |jR=>rfl
theorem cO.BU{l:cO}:l.up.ae U ph=l.ae U ph:=by cases l<;>rfl
theorem ag.down_up{l:ag}{x:cO}(h:l.down=some x):l=x.up:=by
 cases l<;>simp_all[ag.down]<;>(subst h;rfl)
theorem ag.ak(h:a8 p U ai ph aJ):∀ {l:ag},l.all p=true->l.ae U ph=l.ae ai aJ:=by
 intro l ha;cases l with
 |i k e=>simp only[ag.all]at ha;simp[ag.ae,IE.ak h.e ha]
 |b e=>simp only[ag.all]at ha;simp[ag.ae,BE.ak h.e ha]
 |p id off=>simp only[ag.all]at ha;simp[ag.ae,h.r _ ha]
 |ep row sz x j=>simp only[ag.all,ah]at ha;simp[ag.ae,h.v _ ha.1,IE.ak h.e ha.2]
 |pi id off sz n x=>simp only[ag.all,ah]at ha;simp[ag.ae,h.r _ ha.1,IE.ak h.e ha.2]
 |s row=>simp only[ag.all]at ha;simp[ag.ae,Ph.val,h.v _ ha]
 |jR=>rfl
 |Rw=>rfl
 |f g=>rfl
 | fn g cS=>
   simp only[ag.all,k7]at ha;simp only[ag.ae];congr 2;exact sO fun c hc=>by
     unfold kR;rw[h.r _ (ha c hc),h.v _ (ha c hc)]
 |fl e=>simp only[ag.all]at ha;simp[ag.ae,IE.ak h.e ha]
 |str bs=>rfl
 |Rx=>rfl
 |FB=>rfl
 | bf g agg ls=>
   simp only[ag.all,k7]at ha;have e:ls.map (cO.ae U ph)=ls.map (cO.ae ai aJ):=sO fun c hc=>cO.ak h (ha c hc);simp only[ag.ae,e]
 |vw row sz lo n=>simp only[ag.all,ah]at ha;simp[ag.ae,h.v _ ha.1,IE.ak h.e ha.2.1,IE.ak h.e ha.2.2]
 |cs row=>simp only[ag.all]at ha;simp[ag.ae,h.v _ ha]
 |bs id n sz=>simp only[ag.all]at ha;simp[ag.ae,h.r _ ha]
 |kb row bs=>simp only[ag.all]at ha;simp[ag.ae,Ph.val,h.v _ ha]
 |ab row m b=>simp only[ag.all]at ha;simp[ag.ae,h.v _ ha]
theorem jr(h:a8 p U ai ph aJ):∀ {ls:List ag},a7 p ls=true->ls.map (ag.ae U ph)=ls.map (ag.ae ai aJ):=by
 intro ls;induction ls with
 |nil=>intro _;rfl
 | cons l ls ih=>
   intro ha;simp only[a7,ah]at ha;simp only[jt,ag.ak h ha.1,ih ha.2]
theorem V1.ak(h:a8 p U ai ph aJ):∀ {x:V1},x.all p=true->x.ae U ph=x.ae ai aJ:=by
 intro x ha;cases x with
 |one l=>exact ag.ak h ha
 |agg ls=>simp only[V1.all]at ha;simp only[V1.ae,jr h ha]
theorem AV(h:a8 p U ai ph aJ):∀ {xs:List V1},cV p xs=true->xs.map (V1.ae U ph)=xs.map (V1.ae ai aJ):=by
 intro ls;induction ls with
 |nil=>intro _;rfl
 | cons l ls ih=>
   intro ha;simp only[cV,ah]at ha;simp only[jt,V1.ak h ha.1,ih ha.2]
theorem SV.ak(h:a8 p U ai ph aJ):∀ {x:SV},x.all p=true->x.ae U ph=x.ae ai aJ:=by
 intro x ha;cases x with
 |v x=>exact V1.ak h ha
 |Fu xs=>simp only[SV.all]at ha;simp only[SV.ae,AV h ha]
theorem aN.ak(h:a8 p U ai ph aJ){s:aN}(ha:s.all p=true):s.ae U ph=s.ae ai aJ:=by
 simp only[aN.all,ah]at ha;simp only[aN.ae,BE.ak h.e ha.1,SV.ak h ha.2]
end
section
open Go.RowKit
def CK.val:CK->Int->Value
 |.i k,n=>.int k n
 |.b,n=>.bool (decide (n≠0))
 |.f,n=>.float .f64 n.toNat
def bG:List CK->Nat->List Int->List Value
 | [],_,_=>[]
 |k::ks,j,r=>k.val (r.getD j 0)::bG ks (j+1) r
def av(ks:List CK):List (List Int)->List Value
 | []=>[]
 |r::rs=>bG ks 0 r++av ks rs
theorem b5(ks:List CK):∀j r,(bG ks j r).length=ks.length:=by
 induction ks with
 |nil=>intro j r;rfl
 |cons k ks ih=>intro j r;simp[bG,ih]
theorem hO(ks:List CK):∀(j0:Nat) (r:List Int) (j:Nat),(bG ks j0 r)[j]?=(ks[j]?).map fun k=>k.val (r.getD (j0+j) 0):=by
 induction ks with
 |nil=>intro j0 r j;simp[bG]
 | cons k ks ih=>
   intro j0 r j;cases j with
   |zero=>simp[bG]
   | succ j=>
     simp only[bG,xO,ih];rw[show j0+1+j=j0+(j+1)by omega]
theorem bH(ks:List CK)(xs:List (List Int)):(av ks xs).length=xs.length*ks.length:=by
 induction xs with
 |nil=>simp[av]
 |cons r rs ih=>simp[av,b5,ih,j7,Nat.add_comm]
theorem kS(ks:List CK)(xs ys:List (List Int)):av ks (xs++ys)=av ks xs++av ks ys:=by
 induction xs with
 |nil=>rfl
 |cons r rs ih=>simp[av,ih]
theorem lk(ks:List CK):∀(xs:List (List Int)) (i j:Nat),i<xs.length->j<ks.length->
   (av ks xs)[i*ks.length+j]?=(ks[j]?).map fun k=>k.val ((xs.getD i []).getD j 0):=by
 intro xs;induction xs with
 |nil=>intro i j hi;simp at hi
 | cons r rs ih=>
   intro i j hi hj;cases i with
   | zero=>
     simp only[av,Nat.zero_mul,fP];rw[nT (by rw[b5];exact hj),hO];simp
   | succ i=>
     simp only[av];rw[qv (by rw[b5,j7];omega),b5];have e:(i+1)*ks.length+j-ks.length=i*ks.length+j:=by rw[j7];omega
     rw[e,ih i j (by simpa using hi) hj];simp
theorem CK.mO(k:CK)(n:Int):(k.val n).oneCell'=true:=by cases k<;>rfl
theorem hU(ks:List CK)(xs:List (List Int)):∀u∈av ks xs,u.oneCell'=true:=by
 have aY:∀(ks:List CK) j r,∀u∈bG ks j r,u.oneCell'=true:=by
   intro ks;induction ks with
   |nil=>intro j r u hu;simp[bG]at hu
   | cons k ks ih=>
     intro j r u hu;simp only[bG,bh]at hu;rcases hu with rfl|hu;exact CK.mO _ _;exact ih _ _ u hu
 induction xs with
 |nil=>intro u hu;simp[av]at hu
 | cons r rs ih=>
   intro u hu;simp only[av,oQ]at hu;rcases hu with hu|hu;exact aY _ _ _ u hu;exact ih u hu
def Reads(w:World)(v:Value)(n:Nat)(cells:List Value):Prop:=
 ∃base cap,v = .slice base n cap/\(n<=maxLen/\n<=cap)/\(base=none->n=0/\cap=0)/\∀j u,cells[j]?=some u->∃a,base=some a/\w.cell? (a.add j)=some u
theorem ny{w:World}{B:Nat}{e:TypeId}{sz:Nat}{v:Value}{n:Nat}{xs:List Value}(h:w.ownsRow B e sz v n xs):Reads w v n xs:=by
 have h':=h;obtain⟨hl,⟨rfl,rfl⟩|⟨g,cap,cur,rfl,hg,hh,hn,hc,hs,ht⟩⟩:=h;refine⟨none,0,rfl,⟨Nat.zero_le _,Nat.zero_le _⟩,fun _=>⟨rfl,rfl⟩,fun j u hj=>?_⟩;rw[Nat.zero_mul]at hl;rw[BV hl]at hj;simp at hj;refine⟨some ⟨g,0,none⟩,cap,rfl,⟨jS hn hc,hn⟩,fun h=>by simp at h,fun j u hj=>⟨_,rfl,?_⟩⟩;exact h'.cells (by simp[Value.ownBlock]) j u hj
def fw(B:Nat)(U:aA)(ph:Ph)(r:Row)(w:World):Prop:=
 0<r.ks.length/\
 (if r.own then w.ownsRow B r.e r.ks.length (ph.val r.id) (U r.lv).list.length (av r.ks (U r.lv).list)
  else Reads w (ph.val r.id) (U r.lv).list.length (av r.ks (U r.lv).list))
theorem fw.reads{B:Nat}{U:aA}{ph:Ph}{r:Row}{w:World}(h:fw B U ph r w) :
   Reads w (ph.val r.id) (U r.lv).list.length (av r.ks (U r.lv).list):=by
 obtain⟨_,h⟩:=h;split at h;exact ny h;exact h
def Row.bM(U:aA)(ph:Ph)(r:Row):Option Nat:=if r.own||decide ((U r.lv).list.length≠0)then(ph.val r.id).ownBlock else none
theorem fw.rQ{B:Nat}{U:aA}{ph:Ph}{r:Row}{w:World}(h:fw B U ph r w){k:Nat}(hk:r.bM U ph=some k):k<w.heap.size:=by
 obtain⟨h0,h⟩:=h;unfold Row.bM at hk;split at hk;rename_i hc;split at h;exact(h.lt k hk).2;rename_i ho;have ck:(U r.lv).list.length≠0:=by simpa[ho]using hc
 obtain⟨base,cap,hv,_,_,ix⟩:=h;have hl:=bH r.ks (U r.lv).list;have ll:0<(av r.ks (U r.lv).list).length:=by rw[hl];exact Nat.mul_pos (by omega) h0
 obtain⟨a,rfl,ha⟩:=ix 0 _ (fV ll);rw[hv]at hk;simp only[Value.ownBlock,af]at hk;have:=World.block_lt_of_cell? w (a.add 0) ha;rw[Addr.add_zero']at this;omega;cases hk
def sP(B:Nat)(U:aA)(ph:Ph)(b:gD)(w:World):Prop:=
 B<=ph.r b.id/\w.heap[ph.r b.id]?=some (.cells (b.cells.map (ag.ae U ph)).toArray b.ty (0,0))
structure je(B:Nat)(U:aA)(ph:Ph)(aR:List gD)(rows:List Row)(w:World):Prop where
 lP:∀b∈aR,sP B U ph b w
 bb:∀b∈aR,∀b'∈aR,b.id≠b'.id->ph.r b.id≠ph.r b'.id
 row:∀r∈rows,r.g.ae U=true->fw B U ph r w
 br:∀b∈aR,∀r∈rows,r.g.ae U=true->r.bM U ph≠some (ph.r b.id)
 rr:∀r∈rows,∀r'∈rows,r.id≠r'.id->r.own=true->r.g.ae U=true->r'.g.ae U=true->∀k,r.bM U ph=some k->r'.bM U ph≠some k
def fc(U:aA)(ph:Ph)(ts:List (Option aN))(tmps:Array Value):Prop:=
 ts.length=tmps.size/\∀(t:Nat) (s:aN),ts[t]?=some (some s)->tmps[t]?=some (s.ae U ph)
structure xP(st:St):Prop where
 tmps:∀(t:Nat) (s:aN),st.tmps[t]?=some (some s)->s.all st.has=true
 aR:∀b∈st.aR,b.all st.has=true
 rows:∀r∈st.rows,r.all st.has=true
def pV(z:Nat->Prop)(w:World)(nk:NK)(h:Int)(xs:List Int)(v:Value):Prop:=
 match nk with
 |.c k=>v=k.val h
 |.s _ k=>h=(xs.length:Int)/\Reads w v xs.length (av [k] (xs.map fun x=>[x]))/\(xs≠[]->∀b,v.ownBlock=some b->z b)
def qw(z:Nat->Prop)(w:World)(aH:List NK)(v:Value)(xs:List (List Int)):Prop:=
 ∃base cap,v = .slice base xs.length cap/\xs.length<=maxLen/\(base=none->xs.length=0/\cap=0)/\
   ∀i r,xs[i]?=some r->∃a,base=some a/\z a.block/\∀j nk,aH[j]?=some nk->∃u,w.cell? (a.add (i*aH.length+j))=some u/\pV z w nk (r.getD j 0) (fW aH r j) u
def BW(z:Nat->Prop)(w:World)(B:Nat)(e:TypeId)(aH:List NK)(v:Value)(xs:List (List Int)):Prop:=
 ∃cs:List Value,w.ownsRow B e aH.length v xs.length cs/\∀i r,xs[i]?=some r->∀j nk,aH[j]?=some nk->∃u,cs[i*aH.length+j]?=some u/\pV z w nk (r.getD j 0) (fW aH r j) u
def aac(U:aA)(ph:Ph)(n:df):Prop:=
 ∃base cap,ph.val n.id = .slice base (U n.lv).list.length cap/\(U n.lv).list.length<=maxLen/\(base=none->(U n.lv).list.length=0/\cap=0)
theorem v7{w w':World}{a:Addr}(h:w'.heap[a.block]?=w.heap[a.block]?):w'.cell? a=w.cell? a:=by
 unfold World.cell?;rw[h]
theorem ju(a:Addr)(j:Nat):(a.add j).block=a.block:=by unfold Addr.add;split<;>rfl
theorem Reads.ln{w w':World}{v:Value}{n:Nat}{cells:List Value}(h:Reads w v n cells)(hz:cells≠[]->∀b,v.ownBlock=some b->w'.heap[b]?=w.heap[b]?):Reads w' v n cells:=by
 obtain⟨base,cap,rfl,hn,h0,hc⟩:=h;refine⟨base,cap,rfl,hn,h0,fun j u hj=>?_⟩;obtain⟨a,rfl,ha⟩:=hc j u hj;refine⟨a,rfl,?_⟩;have hb:w'.heap[(a.add j).block]?=w.heap[(a.add j).block]? :=by
   rw[ju];exact hz (by intro e;rw[e]at hj;simp at hj) _ (by simp[Value.ownBlock])
 rw[v7 hb];exact ha
theorem pV.ln{z z':Nat->Prop}{w w':World}{nk:NK}{h:Int}{xs:List Int}{v:Value}(hz:∀k,z k->w'.heap[k]?=w.heap[k]?)(Hx:∀k,z k->z' k)(hc:pV z w nk h xs v):pV z' w' nk h xs v:=by
 cases nk with
 |c k=>exact hc
 | s e k=>
   obtain⟨h1,h2,h3⟩:=hc;have ne:av [k] (xs.map fun x=>[x])≠[]->xs≠[]:=fun ck e=>ck (by subst e;rfl);exact⟨h1,h2.ln fun ck b hb=>hz _ (h3 (ne ck) b hb),fun ck b hb=>Hx _ (h3 ck b hb)⟩
theorem qw.ln{z z':Nat->Prop}{w w':World}{aH:List NK}{v:Value}{xs:List (List Int)}(hz:∀k,z k->w'.heap[k]?=w.heap[k]?)(Hx:∀k,z k->z' k)(h:qw z w aH v xs):qw z' w' aH v xs:=by
 obtain⟨base,cap,hv,hn,h0,hc⟩:=h;refine⟨base,cap,hv,hn,h0,fun i r hi=>?_⟩;obtain⟨a,e,hza,ix⟩:=hc i r hi;refine⟨a,e,Hx _ hza,fun j nk hj=>?_⟩;obtain⟨u,hu,tc⟩:=ix j nk hj;have hb:w'.heap[(a.add (i*aH.length+j)).block]?=w.heap[(a.add (i*aH.length+j)).block]? :=by
   rw[ju];exact hz _ hza
 exact⟨u,by rw[v7 hb];exact hu,tc.ln hz Hx⟩
theorem BW.reads{z z':Nat->Prop}{w:World}{B:Nat}{e:TypeId}{aH:List NK}{v:Value}{xs:List (List Int)}(h0:0<aH.length)(h:BW z w B e aH v xs)(hz:∀k,z k->z' k)(ho:∀k,v.ownBlock=some k->z' k):qw z' w aH v xs:=by
 obtain⟨cs,bA,hc⟩:=h;have h':=bA;obtain⟨hl,⟨rfl,hn⟩|⟨g,cap,cur,rfl,hg,hh,hn,Lw,hs,ht⟩⟩:=bA;refine⟨none,0,by rw[hn],by rw[hn];exact Nat.zero_le _,fun _=>⟨hn,rfl⟩,fun i r hi=>?_⟩;rw[BV hn]at hi;simp at hi;refine⟨some ⟨g,0,none⟩,cap,rfl,jS hn Lw,fun h=>by simp at h,fun i r hi=>⟨_,rfl,ho g (by simp[Value.ownBlock]),fun j nk hj=>?_⟩⟩;obtain⟨u,hu,tc⟩:=hc i r hi j nk hj;exact⟨u,h'.cells (by simp[Value.ownBlock]) _ _ hu,tc.ln (fun _ _=>rfl) hz⟩
theorem BW.ln{z z':Nat->Prop}{w w':World}{B:Nat}{e:TypeId}{aH:List NK}{v:Value}{xs:List (List Int)}(h:BW z w B e aH v xs)(hz:∀k,z k->w'.heap[k]?=w.heap[k]?)(Hx:∀k,z k->z' k)(ho:∀k,v.ownBlock=some k->w'.heap[k]?=w.heap[k]?):BW z' w' B e aH v xs:=by
 obtain⟨cs,bA,hc⟩:=h;refine⟨cs,?_,fun i r hi j nk hj=>?_⟩;obtain⟨hl,hr⟩:=bA;refine⟨hl,hr.imp (fun x=>x) ?_⟩;rintro⟨g,cap,cur,hv,hg,hh,xQ⟩;exact⟨g,cap,cur,hv,hg,by rw[ho g (by rw[hv];rfl)];exact hh,xQ⟩;obtain⟨u,hu,tc⟩:=hc i r hi j nk hj;exact⟨u,hu,tc.ln hz Hx⟩
def eH(B:Nat)(U:aA)(ph:Ph)(n:df)(w:World):Prop:=
 if n.own then BW (fun k=>ph.z k/\B<=k) w B n.e n.aH (ph.val n.id) (U n.lv).list else qw ph.z w n.aH (ph.val n.id) (U n.lv).list
structure cP(B:Nat)(U:aA)(ph:Ph)(st:St)(w:World):Prop where
 lt:∀k,ph.z k->k<w.heap.size
 bz:∀b∈st.aR,¬ ph.z (ph.r b.id)
 rz:∀r∈st.rows,r.own=true->r.g.ae U=true->∀k,r.bM U ph=some k->¬ ph.z k
 rd:∀n∈st.aV,n.g.ae U=true->0<n.aH.length/\eH B U ph n w
 nm:∀n∈st.aV,n.all st.has=true
 oz:∀n∈st.aV,n.own=true->n.g = .c true/\∀k,(ph.val n.id).ownBlock=some k->¬ ph.z k/\(∀b∈st.aR,ph.r b.id≠k)/\(∀r∈st.rows,r.g.ae U=true->r.bM U ph≠some k)/\∀n'∈st.aV,n'.own=true->n'.id≠n.id->(ph.val n'.id).ownBlock≠some k
theorem cP.own{B:Nat}{U:aA}{ph:Ph}{st:St}{w:World}(h:cP B U ph st w){n:df}(hn:n∈st.aV)(ho:n.own=true):n.g = .c true/\0<n.aH.length/\BW (fun k=>ph.z k/\B<=k) w B n.e n.aH (ph.val n.id) (U n.lv).list:=by
 have hg:=(h.oz n hn ho).1;obtain⟨h0,h1⟩:=h.rd n hn (by rw[hg];rfl);unfold eH at h1;rw[if_pos ho]at h1;exact⟨hg,h0,h1⟩
theorem cP.nA{B:Nat}{U:aA}{ph:Ph}{st:St}{w:World}(h:cP B U ph st w){n:df}(hn:n∈st.aV)(ho:n.own=true){k:Nat}(hk:(ph.val n.id).ownBlock=some k):B<=k/\k<w.heap.size:=by
 obtain⟨_,_,cs,bA,_⟩:=h.own hn ho;exact bA.lt k hk
theorem cP.reads{B:Nat}{U:aA}{ph:Ph}{st:St}{w:World}(h:cP B U ph st w){n:df}(hn:n∈st.aV)(hg:n.g.ae U=true):0<n.aH.length/\qw (fun k=>k<w.heap.size) w n.aH (ph.val n.id) (U n.lv).list:=by
 obtain⟨h0,h1⟩:=h.rd n hn hg;refine⟨h0,?_⟩;unfold eH at h1;split at h1;exact h1.reads h0 (fun k hk=>h.lt k hk.1) (fun k hk=>(h.nA hn (by assumption) hk).2);exact h1.ln (fun _ _=>rfl) h.lt
theorem cP.aad{B:Nat}{U:aA}{ph:Ph}{st:St}{w:World}(h:cP B U ph st w):∀n∈st.aV,n.g.ae U=true->aac U ph n/\0<n.aH.length:=fun n hn hg=>by
 obtain⟨h0,base,cap,hv,hl,hb,_⟩:=h.reads hn hg;exact⟨⟨base,cap,hv,hl,hb⟩,h0⟩
structure Sat(w0:World)(U:aA)(ph:Ph)(st:St)(a:Act)(w:World):Prop where
 tmps:fc U ph st.tmps a.tmps
 mem:je w0.heap.size U ph st.aR st.rows w
 below:Below w0.heap.size w0 w
 defers:a.defers=[]
 names:xP st
 nest:cP w0.heap.size U ph st w
theorem je.congr{B:Nat}{p:Nat->Bool}{U ai:aA}{ph aJ:Ph}(hg:a8 p U ai ph aJ){aR:List gD}{rows:List Row}{w:World}
   (hb:∀b∈aR,b.all p=true) (hr:∀r∈rows,r.all p=true) (h:je B U ph aR rows w):je B ai aJ aR rows w:=by
 have eb:∀b∈aR,ph.r b.id=aJ.r b.id/\b.cells.map (ag.ae U ph)=b.cells.map (ag.ae ai aJ):=fun b hm=>by
   have:=hb b hm;simp only[gD.all,ah]at this;exact⟨hg.r _ this.1,jr hg this.2⟩
 have er:∀r∈rows,ph.val r.id=aJ.val r.id/\U r.lv=ai r.lv/\r.g.ae U=r.g.ae ai:=fun r hm=>by
   have:=hr r hm;simp only[Row.all,ah]at this;exact⟨by simp only[Ph.val,hg.v _ this.1],hg.e _ this.2.1,BE.ak hg.e this.2.2⟩
 refine⟨fun b hm=>?_,fun b hm b' jW ck=>?_,fun r hm h1=>?_,fun b hm r jW h1=>?_,fun r hm r' jW ck ho h1 h2=>?_⟩;have:=h.lP b hm;unfold sP at *;rw[<- (eb b hm).1,<- (eb b hm).2];exact this;rw[<- (eb b hm).1,<- (eb b' jW).1];exact h.bb b hm b' jW ck;obtain⟨e1,e2,e3⟩:=er r hm;have:=h.row r hm (by rw[e3];exact h1);unfold fw at *;rw[<- e1,<- e2];exact this;obtain⟨e1,e2,e3⟩:=er r jW;have:=h.br b hm r jW (by rw[e3];exact h1);unfold Row.bM at *;rw[<- e1,<- e2,<- (eb b hm).1];exact this;obtain⟨e1,e2,e3⟩:=er r hm;obtain⟨f1,f2,f3⟩:=er r' jW;have hf:r.bM ai aJ=r.bM U ph:=by unfold Row.bM;rw[e1,e2]
 have z6:r'.bM ai aJ=r'.bM U ph:=by unfold Row.bM;rw[f1,f2]
 rw[hf,z6];exact h.rr r hm r' jW ck ho (by rw[e3];exact h1) (by rw[f3];exact h2)
theorem cP.congr{B:Nat}{U ai:aA}{ph aJ:Ph}{st:St}{w:World}(h:cP B U ph st w)(hg:a8 st.has U ai ph aJ)(hz:aJ.z=ph.z)
   (hb:∀b∈st.aR,b.all st.has=true) (hr:∀r∈st.rows,r.all st.has=true):cP B ai aJ st w:=by
 have en:∀n∈st.aV,aJ.val n.id=ph.val n.id/\ai n.lv=U n.lv/\n.g.ae ai=n.g.ae U:=fun n hn=>by
   have:=h.nm n hn;simp only[df.all,ah]at this;exact⟨by simp only[Ph.val,hg.v _ this.1],(hg.e _ this.2.1).symm,(BE.ak hg.e this.2.2).symm⟩
 have er:∀r∈st.rows,r.bM ai aJ=r.bM U ph/\r.g.ae ai=r.g.ae U:=fun r hm=>by
   have:=hr r hm;simp only[Row.all,ah]at this;refine⟨?_,(BE.ak hg.e this.2.2).symm⟩;unfold Row.bM;rw[hg.e _ this.2.1];simp only[Ph.val,hg.v _ this.1]
 have eb:∀b∈st.aR,aJ.r b.id=ph.r b.id:=fun b hm=>by
   have:=hb b hm;simp only[gD.all,ah]at this;exact(hg.r _ this.1).symm
 refine⟨fun k hk=>h.lt k (by rw[<- hz];exact hk),fun b hm=>?_,fun r hm ho h1 k hk=>?_,fun n hm h1=>?_,h.nm,fun n hm ho=>?_⟩;rw[hz,eb b hm];exact h.bz b hm;rw[hz];exact h.rz r hm ho (by rw[<- (er r hm).2];exact h1) k (by rw[<- (er r hm).1];exact hk);obtain⟨e1,e2,e3⟩:=en n hm;have:=h.rd n hm (by rw[<- e3];exact h1);unfold eH at *;rw[hz,e1,e2];exact this;obtain⟨e1,e2,e3⟩:=en n hm;obtain⟨h1,h2⟩:=h.oz n hm ho;refine⟨h1,fun k hk=>?_⟩;rw[e1]at hk;obtain⟨g1,g2,g3,g4⟩:=h2 k hk;refine⟨by rw[hz];exact g1,fun b AW=>by rw[eb b AW];exact g2 b AW,fun r Ry gn=>?_,fun n' jW oL ck=>?_⟩;rw[(er r Ry).1];exact g3 r Ry (by rw[<- (er r Ry).2];exact gn);rw[(en n' jW).1];exact g4 n' jW oL ck
theorem Sat.congr{w0:World}{U ai:aA}{ph aJ:Ph}{st:St}{a:Act}{w:World}(h:Sat w0 U ph st a w)(hg:a8 st.has U ai ph aJ)(hz:aJ.z=ph.z:=by rfl):Sat w0 ai aJ st a w:=by
 refine⟨⟨h.tmps.1,fun t s ht=>?_⟩,h.mem.congr hg h.names.aR h.names.rows,h.below,h.defers,h.names,h.nest.congr hg hz h.names.aR h.names.rows⟩;rw[<- aN.ak hg (h.names.tmps t s ht)];exact h.tmps.2 t s ht
theorem je.BX{B:Nat}{U:aA}{ph:Ph}{aR:List gD}{rows:List Row}{w:World}(h:je B U ph aR rows w){b:gD}(hm:b∈aR):ph.r b.id<w.heap.size:=by
 have:=(h.lP b hm).2;exact(qd.1 this).1
end
section
open Go.RowKit
theorem oR{k:IntKind}{n:Int}(h:k.min<=n/\n<=k.max):k.wrap n=n:=by
 obtain⟨h1,h2⟩:=h;cases k<;>simp[IntKind.wrap,IntKind.min,IntKind.max,IntKind.signed,IntKind.bits]at * <;>omega
theorem v8(x:Int):(BitVec.ofInt 64 x).toNat=(x%18446744073709551616).toNat:=by
 rw[BitVec.toNat_ofInt];rfl
theorem DJ(k:IntKind)(hk:k = .i64\/k = .u64)(x:Int)(m:Nat)(hm:m<=62) :
   Go.bits .and k x (((2 ^ m:Nat):Int)-1)=x%((2 ^ m:Nat):Int):=by
 have ll:0<2 ^ m:=Nat.two_pow_pos m;have hle:2 ^ m<=2 ^ 62:=Nat.pow_le_pow_right (by decide) hm;have e1:(BitVec.ofInt 64 (((2 ^ m:Nat):Int)-1)).toNat=2 ^ m-1:=by
   rw[v8];generalize 2 ^ m=q at *;have:((q:Int)-1)%18446744073709551616=(q:Int)-1:=Int.emod_eq_of_lt (by omega) (by simp at hle;omega);rw[this];omega
 have e2:(BitVec.ofInt 64 x &&& BitVec.ofInt 64 (((2 ^ m:Nat):Int)-1)).toNat=(x%18446744073709551616).toNat%2 ^ m:=by
   rw[BitVec.toNat_and,e1,Nat.and_two_pow_sub_one_eq_mod,v8]
 have e3:(((x%18446744073709551616).toNat%2 ^ m:Nat):Int)=x%((2 ^ m:Nat):Int):=by
   have h0:0<=x%18446744073709551616:=FC _ (by decide);rw[Int.natCast_emod,Int.toNat_of_nonneg h0];apply Int.emod_emod_of_dvd;have:(18446744073709551616:Int)=((2 ^ 64:Nat):Int):=by decide
   rw[this];exact Int.natCast_dvd_natCast.2 (Nat.pow_dvd_pow 2 (by omega))
 have cF:(x%18446744073709551616).toNat%2 ^ m<2 ^ m:=Nat.mod_lt _ ll;have hw:∀n:Nat,n<2 ^ 62->k.wrap (n:Int)=n:=by
   intro n hn;apply oR;rcases hk with rfl|rfl<;>simp[IntKind.min,IntKind.max,IntKind.signed,IntKind.bits]at * <;>omega
 rcases hk with rfl|rfl;show IntKind.i64.wrap ((BitVec.ofInt 64 x &&& BitVec.ofInt 64 (((2 ^ m:Nat):Int)-1)).toNat:Int)=_;rw[e2,hw _ (by omega),e3];show IntKind.u64.wrap ((BitVec.ofInt 64 x &&& BitVec.ofInt 64 (((2 ^ m:Nat):Int)-1)).toNat:Int)=_;rw[e2,hw _ (by omega),e3]
theorem wa:∀ {f:Nat} {n:Int} {m:Nat},xR f n=some m->m<f/\n=((2 ^ m:Nat):Int)-1:=by
 intro f;induction f with
 |zero=>intro n m h;simp[xR]at h
 | succ f ih=>
   intro n m h;unfold xR at h;split at h;rename_i he;simp only[af]at h;subst h;exact⟨by omega,by omega⟩;obtain⟨h1,h2⟩:=ih h;exact⟨by omega,h2⟩
section
variable {U:aA}{ph:Ph}
theorem jf{wr:Bool}{k:IntKind}{e:IE}(hn:∀n∈(arith wr k e).1,n.ae U=true):(arith wr k e).2.ae U ph = .int k (k.wrap (e.ae U)):=by
 rw[<- IE.bY U e];unfold arith at hn ⊢;generalize e.mk=e' at *;unfold Lx at hn ⊢;split at hn;rfl;cases wr;exact(congrArg (Value.int k) (oR (Rv (hn _ (lU.2 rfl)))).symm);rfl
end
end
section
open Go.RowKit
variable {U:aA}{ph:Ph}{P:Program}{w:World}
theorem Hy(k yk:IntKind)(x y:Int)(t:TypeId)(h0:0<=y)(h1:y<=k.bits):(binOp .shl t (.int k x) (.int yk y)).run P w = .ok (.int k (k.wrap (x*2 ^ y.toNat))) w:=by
 rw[binOp_shl,shift_shl k yk x y h0 h1];rfl
theorem Hz(k yk:IntKind)(x y:Int)(t:TypeId)(h0:0<=y)(h1:y<=k.bits):(binOp .shr t (.int k x) (.int yk y)).run P w = .ok (.int k (x/2 ^ y.toNat)) w:=by
 rw[binOp_shr,shift_shr k yk x y h0 h1];rfl
theorem Rz(k:IntKind)(x y:Int)(t:TypeId)(h:y≠0):(binOp .quo t (.int k x) (.int k y)).run P w = .ok (.int k (k.wrap (x.tdiv y))) w:=by
 rw[binOp_quo];simp[Op.intDiv,h]
theorem RA(k:IntKind)(x y:Int)(t:TypeId)(h:y≠0):(binOp .rem t (.int k x) (.int k y)).run P w = .ok (.int k (x.tmod y)) w:=by
 rw[binOp_rem];simp[Op.intDiv,h]
theorem HA{e:IE}(h:((BE.qu e).mk).ae U=true):e.ae U≠0:=by
 rw[BE.bY]at h;simpa[BE.ae]using h
theorem bP{a b:IE}(h:((BE.le a b).mk).ae U=true):a.ae U<=b.ae U:=by
 rw[BE.bY]at h;simpa[BE.ae]using h
theorem eB{a b:IE}(h:((BE.lt a b).mk).ae U=true):a.ae U<b.ae U:=by
 rw[BE.bY]at h;simpa[BE.ae]using h
theorem xS{wr:Bool}{op:BinOp}{l1 l2 l:ag}{ns:List BE}(t:TypeId)(x y:Operand)(h:Ly wr op l1 l2=some (ns,l))(hn:∀n∈ns,n.ae U=true) :
   (do eqGuard op t x y (l1.ae U ph) (l2.ae U ph);binOp op t (l1.ae U ph) (l2.ae U ph):Sem Value).run P w = .ok (l.ae U ph) w:=by
 have go:∀(k:IntKind) (a:IE) (v:Value),(binOp op t (.int k (a.ae U)) (l2.ae U ph)).run P w = .ok v w->l1 = .i k a->v=l.ae U ph->
     (do eqGuard op t x y (l1.ae U ph) (l2.ae U ph);binOp op t (l1.ae U ph) (l2.ae U ph):Sem Value).run P w = .ok (l.ae U ph) w:=by
   intro k a v hr hl hv;subst hl;rw[<- hv,<- hr];show Sem.run P (do eqGuard op t x y (.int k (a.ae U)) (l2.ae U ph);binOp op t (.int k (a.ae U)) (l2.ae U ph)) w=_;rw[eqGuard_at_int];rfl
 unfold Ly at h;split at h;rename_i k a _ n;split at h;rename_i hc;obtain⟨h0,h1,h2⟩:=hc;simp only[af]at h;have h':arith wr k (.mul a (.c ((2 ^ n.toNat:Nat):Int)))=(ns,l):=h;have:=jf (U:=U) (ph:=ph) (wr:=wr) (k:=k) (e:=.mul a (.c ((2 ^ n.toNat:Nat):Int))) (by rw[h'];exact hn);rw[h']at this;refine go k a _ (Hy k _ _ n t h0 h2) rfl ?_;rw[this];simp[IE.ae];cases h;rename_i k a _ b _;simp only[af,ao]at h;obtain⟨rfl,rfl⟩:=h;have h0:=bP (hn _ (aM ..));have h1:=bP (hn _ (aZ _ (aM ..)));have:=jf (U:=U) (ph:=ph) (wr:=wr) (k:=k) (e:=.shl a b) (fun n hm=>hn n (aZ _ (aZ _ hm)));exact go k a _ (Hy k _ _ _ t h0 h1) rfl this.symm;rename_i k a _ n;split at h;rename_i hc;obtain⟨h0,h1,h2⟩:=hc;simp only[af,ao]at h;obtain⟨rfl,rfl⟩:=h;refine go k a _ (Hz k _ _ n t h0 h2) rfl ?_;simp only[ag.ae,IE.bY];simp[IE.ae];cases h;rename_i k a _ b _;simp only[af,ao]at h;obtain⟨rfl,rfl⟩:=h;have h0:=bP (hn _ (aM ..));have h1:=bP (hn _ (aZ _ (aM ..)));refine go k a _ (Hz k _ _ _ t h0 h1) rfl ?_;simp only[ag.ae,IE.bY];simp[IE.ae];rename_i k a k' b;split at h;rename_i hk;subst hk;simp only[af]at h;have h':arith wr k (.add a b)=(ns,l):=h;have:=jf (U:=U) (ph:=ph) (wr:=wr) (k:=k) (e:=.add a b) (by rw[h'];exact hn);rw[h']at this;exact go k a _ (by simp[ag.ae,binOp_add,Op.intArith];rfl) rfl this.symm;cases h;rename_i k a k' b;split at h;rename_i hk;subst hk;simp only[af]at h;have h':arith wr k (.sub a b)=(ns,l):=h;have:=jf (U:=U) (ph:=ph) (wr:=wr) (k:=k) (e:=.sub a b) (by rw[h'];exact hn);rw[h']at this;exact go k a _ (by simp[ag.ae,binOp_sub,Op.intArith];rfl) rfl this.symm;cases h;rename_i k a k' b;split at h;rename_i hk;subst hk;simp only[af]at h;have h':arith wr k (.mul a b)=(ns,l):=h;have:=jf (U:=U) (ph:=ph) (wr:=wr) (k:=k) (e:=.mul a b) (by rw[h'];exact hn);rw[h']at this;exact go k a _ (by simp[ag.ae,binOp_mul,Op.intArith];rfl) rfl this.symm;cases h;rename_i k a k' b;split at h;rename_i hk;subst hk;simp only[af,ao]at h;obtain⟨rfl,rfl⟩:=h;have h0:=HA (hn _ (aM ..));have:=jf (U:=U) (ph:=ph) (wr:=wr) (k:=k) (e:=.tdiv a b) (fun n hm=>hn n (aZ _ hm));exact go k a _ (Rz k _ _ t h0) rfl this.symm;cases h;rename_i k a k' b;split at h;rename_i hk;subst hk;simp only[af,ao]at h;obtain⟨rfl,rfl⟩:=h;have h0:=HA (hn _ (aM ..));refine go k a _ (RA k _ _ t h0) rfl ?_;simp only[ag.ae,IE.bY];simp[IE.ae];cases h;rename_i k a k' n;split at h;rename_i hk;subst hk;have hand:∀(k:IntKind) (a b:Int),(binOp .and t (.int k a) (.int k b)).run P w = .ok (.int k (Go.bits .and k a b)) w:=fun k a b=>by rw[binOp_and,intBits_and];rfl
 split at h;rename_i m hm;simp only[af,ao]at h;obtain⟨rfl,rfl⟩:=h;obtain⟨tT,Fv⟩:=wa hm;refine go _ a _ (hand _ _ _) rfl ?_;rw[Fv];simp only[IE.ae];rw[DJ _ (.inl rfl) _ m (by omega)];simp only[ag.ae,IE.bY];simp[IE.ae];rename_i m hm;simp only[af,ao]at h;obtain⟨rfl,rfl⟩:=h;obtain⟨tT,Fv⟩:=wa hm;refine go _ a _ (hand _ _ _) rfl ?_;rw[Fv];simp only[IE.ae];rw[DJ _ (.inr rfl) _ m (by omega)];simp only[ag.ae,IE.bY];simp[IE.ae];simp only[af,ao]at h;obtain⟨rfl,rfl⟩:=h;refine go _ a _ (hand _ _ _) rfl ?_;simp only[ag.ae,IE.bY];simp[IE.ae];cases h;rename_i k a k' b _;split at h;rename_i hk;subst hk;simp only[af,ao]at h;obtain⟨rfl,rfl⟩:=h;refine go k a (.int k (Go.bits .and k (a.ae U) (b.ae U))) (by simp only[ag.ae,binOp_and,intBits_and];rfl) rfl ?_;simp only[ag.ae,IE.bY];rfl;cases h;rename_i k a k' b;split at h;rename_i hk;subst hk;simp only[af,ao]at h;obtain⟨rfl,rfl⟩:=h;refine go k a (.int k (Go.bits .or k (a.ae U) (b.ae U))) (by simp only[ag.ae,binOp_or,intBits_or];rfl) rfl ?_;simp only[ag.ae,IE.bY];rfl;cases h;rename_i k a k' b;split at h;rename_i hk;subst hk;simp only[af,ao]at h;obtain⟨rfl,rfl⟩:=h;refine go k a (.int k (Go.bits .xor k (a.ae U) (b.ae U))) (by simp only[ag.ae,binOp_xor,intBits_xor];rfl) rfl ?_;simp only[ag.ae,IE.bY];rfl;cases h;rename_i k a k' b;split at h;rename_i hk;subst hk;simp only[af,ao]at h;obtain⟨rfl,rfl⟩:=h;refine go k a (.int k (Go.bits .andNot k (a.ae U) (b.ae U))) (by simp only[ag.ae,binOp_andNot,intBits_andNot];rfl) rfl ?_;simp only[ag.ae,IE.bY];rfl;cases h
 all_goals first
   |cases h;done
   | (rename_i k a k' b
      split at h
      . rename_i hk;subst hk;simp only[af,ao]at h;obtain⟨rfl,rfl⟩:=h;refine go k a (.bool _) (by simp only[ag.ae,binOp_lss,binOp_leq,binOp_gtr,binOp_geq,binOp_eql,binOp_neq];rfl) rfl ?_;simp only[ag.ae,BE.bY,BE.ae]
        try first|rfl|(rw[Bool.eq_iff_iff];simp;done)|(simp[bne];rw[Bool.eq_iff_iff];simp;done)
      cases h)
end
section
open Go.RowKit
variable {U:aA}{ph:Ph}{P:Program}{w:World}
def Zv:Value->Value->Bool
 |.int _ a,.int _ b=>decide (a=b)
 |.bool a,.bool b=>a==b
 |_,_=>false
def lV:List Value->List Value->Bool
 | [],[]=>true
 |x::xs,y::ys=>Zv x y&&lV xs ys
 |_,_=>false
def FD:CK->Value->Bool
 |.i k,.int k' _=>decide (k=k')
 |.b,.bool _=>true
 |.f,.float .f64 _=>true
 |_,_=>false
def iI:List CK->List Value->Bool
 | [],[]=>true
 |k::ks,x::xs=>FD k x&&iI ks xs
 |_,_=>false
theorem fh:∀ {ks:List CK} {xs:List Value},iI ks xs=true->xs.length=ks.length:=by
 intro ks;induction ks with
 | nil=>intro xs h;cases xs with
   |nil=>rfl
   |cons x xs=>simp[iI]at h
 | cons k ks ih=>intro xs h;cases xs with
   |nil=>simp[iI]at h
   |cons x xs=>simp only[iI,ah]at h;simp[ih h.2]
theorem lq:∀ {ks ks':List CK} {xs:List Value},iI (ks++ks') xs=true->iI ks (xs.take ks.length)=true/\iI ks' (xs.drop ks.length)=true:=by
 intro ks;induction ks with
 |nil=>intro ks' xs h;exact⟨rfl,by simpa using h⟩
 | cons k ks ih=>intro ks' xs h;cases xs with
   |nil=>simp[iI]at h
   | cons x xs=>
     simp only[nU,iI,ah]at h;obtain⟨h1,h2⟩:=ih h.2;exact⟨by simp[iI,h.1,h1],by simpa using h2⟩
theorem wb:∀ {xs ys k9 ys':List Value},xs.length=ys.length->lV (xs++k9) (ys++ys')=(lV xs ys&&lV k9 ys'):=by
 intro xs;induction xs with
 | nil=>intro ys k9 ys' h;cases ys with
   |nil=>simp[lV]
   |cons y ys=>simp at h
 | cons x xs ih=>intro ys k9 ys' h;cases ys with
   |nil=>simp at h
   |cons y ys=>simp only[nU,lV,ih (by simpa using h),Bool.and_assoc]
def pv(P:Program)(t:TypeId)(cs:List Value):Value:=if fG P t then .agg cs.toArray else cs.headD undef
theorem bT{t:TypeId}(h:0<P.cellsOf t):(sizeOf t).run P w = .ok (P.cellsOf t) w:=by
 unfold Program.cellsOf at *;cases hi:P.info? t with
 |none=>simp[hi]at h
 |some i=>simp[sizeOf,typeInfo,hi]
theorem rR{t:TypeId}(h:(P.underlying t).isSome=true):(isAgg t).run P w = .ok (fG P t) w:=by
 obtain⟨d,hd⟩:=xT.1 h;simp only[isAgg,fG,dz,run_underlying hd,dc,hd];cases d<;>rfl
theorem rS{t:TypeId}(h:(P.underlying t).isSome=true)(hs:0<P.cellsOf t){cs:Array Value}{off:Nat}(hl:off+P.cellsOf t<=cs.size)(h1:fG P t=false->P.cellsOf t=1) :
   (part t cs off).run P w = .ok (pv P t ((cs.toList.drop off).take (P.cellsOf t))) w:=by
 simp only[part,dz,rR h,dc,pv];cases hb:fG P t with
 | true=>
   simp only[if_true,dz,bT hs,dc,eU];congr 2;apply jv;simp[Array.toList_extract,List.extract_eq_take_drop]
 | false=>
   have HB:=h1 hb;rw[HB]at hl ⊢;have:cs[off]?=some cs[off]:=by simp[Array.getElem?_eq_getElem (show off<cs.size by omega)]
   simp only[iC,if_false,this,eU];congr 1;rw[List.drop_eq_getElem_cons (by simp;omega)];simp
theorem AX{n:Nat}{t:TypeId}{ks:List CK}(h:flat P n t=some ks):(P.underlying t).isSome=true:=by
 cases n with
 |zero=>simp[flat]at h
 | succ n=>
   unfold flat at h;cases hu:P.underlying t with
   |none=>simp[hu]at h
   |some d=>rfl
theorem tU{n:Nat}{t:TypeId}{ks:List CK}(h:flat P n t=some ks)(ha:fG P t=false):ks.length=1:=by
 cases n with
 |zero=>simp[flat]at h
 | succ n=>
   unfold flat at h;unfold fG at ha;split at h<;>simp_all;rw[<- h];rfl;rw[<- h];rfl
theorem vd:∀(n:Nat) (t:TypeId) (ks:List CK),flat P n t=some ks->Vh.ve P n t=false->∀(d:Nat),n<=d->∀xs ys:List Value,
   iI ks xs=true->iI ks ys=true->∀w,(Op.equalIn d t (pv P t xs) (pv P t ys)).run P w = .ok (lV xs ys) w:=by
 intro n;induction n with
 |zero=>intro t ks h;simp[flat]at h
 | succ n ih=>
   intro t ks h hh d hd xs ys hx hy w;obtain⟨d,rfl⟩:∃d',d=d'+1:=⟨d-1,by omega⟩;unfold flat at h;unfold Vh.ve at hh;split at h;rename_i k hu;simp only[af]at h;subst h;have K9:=fh hx;have hly:=fh hy
   match xs,ys,K9,hly with
   | [x],[y],_,_=>
     simp only[iI,Bool.and_true]at hx hy;cases x<;>simp[FD]at hx;cases y<;>simp[FD]at hy;simp only[pv,fG,hu,iC,if_false,List.headD_cons];subst hx;subst hy;rw[run_equalIn_int w d t _ _ _ _ hu];simp[lV,Zv];rw[Bool.eq_iff_iff];simp
   rename_i hu;simp only[af]at h;subst h;have K9:=fh hx;have hly:=fh hy
   match xs,ys,K9,hly with
   | [x],[y],_,_=>
     simp only[iI,Bool.and_true]at hx hy;cases x<;>simp[FD]at hx;cases y<;>simp[FD]at hy;simp only[pv,fG,hu,iC,if_false,List.headD_cons];rw[run_equalIn_bool w d t _ _ hu];simp[lV,Zv]
   rename_i fs hu;simp only[hu,Ae]at hh;obtain⟨dM,RB⟩:=hh;simp only[pv,fG,hu,if_true];have hf:P.fieldsOf t=fs:=by simp[Program.fieldsOf,hu]
   rw[run_equalIn_struct w d t _ _ (by rw[hf];exact hu) dM,hf];have key:∀(l:List Field) (off:Nat) (ks:List CK),xU P (flat P n) off l=some ks->(l.any fun f=>f.name == "_" ||Vh.ve P n f.type)=false->
       ∀xs ys:List Value,xs.length=off+ks.length->ys.length=off+ks.length->iI ks (xs.drop off)=true->iI ks (ys.drop off)=true->
       ∀w,(Op.eqFields d xs.toArray ys.toArray l).run P w = .ok (lV (xs.drop off) (ys.drop off)) w:=by
     intro l;induction l with
     | nil=>
       intro off ks h _ xs ys hx hy _ _ w;simp only[xU,af]at h;subst h;simp at hx hy;simp[Op.eqFields,List.drop_eq_nil_of_le,hx,hy,lV]
     | cons f l ihl=>
       intro off ks h RB xs ys nV hyl hx hy w;simp only[xU]at h;split at h;rename_i FE;split at h;rename_i m hm;split at h;rename_i hc;split at h;rename_i r hr;simp only[af]at h;subst h;simp only[List.any_cons,Ae]at RB;obtain⟨⟨aae,Lz⟩,xQ⟩:=RB;have ck:f.name≠ "_" :=by simpa using aae
       obtain⟨Vi,Vj⟩:=lq hx;obtain⟨hy1,hy2⟩:=lq hy;simp only[dG]at nV hyl;have La:=AX hm;have px:=rS (P:=P) (w:=w) La (by omega) (cs:=xs.toArray) (off:=f.offset) (by simp;omega) (fun ha=>by rw[hc.1];exact tU hm ha);have py:=rS (P:=P) (w:=w) La (by omega) (cs:=ys.toArray) (off:=f.offset) (by simp;omega) (fun ha=>by rw[hc.1];exact tU hm ha);simp only[BY,hc.1,FE]at px py;simp only[Op.eqFields,ck,ne_eq,not_false_eq_true,if_true,dz,FE,px,py,dc];rw[ih f.type m hm Lz d (by omega) _ _ Vi hy1 w];simp only[dc];have e:lV (xs.drop off) (ys.drop off)=(lV ((xs.drop off).take m.length) ((ys.drop off).take m.length)&&lV ((xs.drop off).drop m.length) ((ys.drop off).drop m.length)):=by
         rw[<- wb (by simp;omega),BZ,BZ]
       rw[e];cases lV ((xs.drop off).take m.length) ((ys.drop off).take m.length);simp;have:=ihl (off+m.length) r hr xQ xs ys (by omega) (by omega) (by simpa using Vj) (by simpa using hy2) w;simp only[Bool.not_true,iC,if_false,Bool.true_and,List.drop_drop];exact this;cases h;cases h;cases h;cases h
   have K9:=fh hx;have hly:=fh hy;exact key fs.toList 0 ks h RB xs ys (by omega) (by omega) (by simpa using hx) (by simpa using hy) w;rename_i len e hu;split at h;rename_i m hm;split at h;rename_i hc;simp only[af]at h;subst h;simp only[hu]at hh;simp only[pv,fG,hu,if_true];have hi:∃i,P.info? e=some i:=by
     have:=hc.2;rw[<- hc.1]at this;unfold Program.cellsOf at this;cases hi:P.info? e with
     |none=>simp[hi]at this
     |some i=>exact⟨i,rfl⟩
   obtain⟨i,hi⟩:=hi;rw[run_equalIn_array w d _ _ hu hi];have La:=AX hm;have key:∀(c:Nat) (s:Nat) (xs ys:List Value),xs.length=(s+c)*m.length->ys.length=(s+c)*m.length->
       iI (List.replicate c m).flatten (xs.drop (s*m.length))=true->iI (List.replicate c m).flatten (ys.drop (s*m.length))=true->
       ∀w,(Op.eqItems d e (P.cellsOf e) xs.toArray ys.toArray (List.range' s c)).run P w = .ok (lV (xs.drop (s*m.length)) (ys.drop (s*m.length))) w:=by
     intro c;induction c with
     | zero=>
       intro s xs ys hx hy _ _ w;rw[gA]at hx hy;have e1:xs.drop (s*m.length)=[]:=List.drop_eq_nil_of_le (by omega);have e2:ys.drop (s*m.length)=[]:=List.drop_eq_nil_of_le (by omega);simp[Op.eqItems,e1,e2,lV]
     | succ c ihc=>
       intro s xs ys nV hyl hx hy w;simp only[List.replicate_succ,List.flatten_cons]at hx hy;obtain⟨Vi,Vj⟩:=lq hx;obtain⟨hy1,hy2⟩:=lq hy;have AY:(s+(c+1))*m.length=s*m.length+m.length+c*m.length:=by rw[j7,j7,Nat.one_mul];omega
       have px:=rS (P:=P) (w:=w) La (by omega) (cs:=xs.toArray) (off:=s*m.length) (by simp;omega) (fun ha=>by rw[hc.1];exact tU hm ha);have py:=rS (P:=P) (w:=w) La (by omega) (cs:=ys.toArray) (off:=s*m.length) (by simp;omega) (fun ha=>by rw[hc.1];exact tU hm ha);simp only[BY,hc.1]at px py;simp only[List.range'_succ,Op.eqItems,dz,hc.1,px,py,dc];rw[ih e m hm hh d (by omega) _ _ Vi hy1 w];simp only[dc];have e:lV (xs.drop (s*m.length)) (ys.drop (s*m.length))=(lV ((xs.drop (s*m.length)).take m.length) ((ys.drop (s*m.length)).take m.length)&&lV ((xs.drop (s*m.length)).drop m.length) ((ys.drop (s*m.length)).drop m.length)):=by
         rw[<- wb (by simp;omega),BZ,BZ]
       rw[e];have e3:(s+1)*m.length=s*m.length+m.length:=by rw[j7,Nat.one_mul]
       have FF:(s+1+c)*m.length=(s+(c+1))*m.length:=by congr 1;omega
       cases lV ((xs.drop (s*m.length)).take m.length) ((ys.drop (s*m.length)).take m.length);simp;have:=ihc (s+1) xs ys (by omega) (by omega) (by rw[e3];simpa using Vj) (by rw[e3];simpa using hy2) w;simp only[Bool.not_true,iC,if_false,Bool.true_and,List.drop_drop];rw[hc.1,e3]at this;exact this
   have K9:=fh hx;have hly:=fh hy;have hfl:(List.replicate len m).flatten.length=len*m.length:=by simp
   rw[List.range_eq_range'];have:=key len 0 xs ys (by rw[fP];omega) (by rw[fP];omega) (by simpa using hx) (by simpa using hy) w;simpa using this;cases h;cases h;cases h
theorem I'{k:CK}{l:ag}(h:fits k l=true):FD k (l.ae U ph)=true:=by
 cases k<;>cases l<;>simp[fits]at h<;>simp[FD,ag.ae,h]
theorem sQ:∀ {ks:List CK} {ls:List ag},oS ks ls=true->iI ks (ls.map (ag.ae U ph))=true:=by
 intro ks;induction ks with
 | nil=>intro ls h;cases ls with
   |nil=>rfl
   |cons l ls=>simp[oS]at h
 | cons k ks ih=>intro ls h;cases ls with
   |nil=>simp[oS]at h
   |cons l ls=>simp only[oS,ah]at h;simp[iI,I' h.1,ih h.2]
theorem FG{x y:ag}{p:BE}(h:FH x y=some p):p.ae U=Zv (x.ae U ph) (y.ae U ph):=by
 unfold FH at h;split at h;split at h;simp only[af]at h;subst h;simp[BE.bY,BE.ae,Zv,ag.ae];cases h;simp only[af]at h;subst h;simp[BE.bY,BE.ae,Zv,ag.ae];cases h
theorem DK:∀ {xs ys:List ag} {p:BE},oT xs ys=some p->p.ae U=lV (xs.map (ag.ae U ph)) (ys.map (ag.ae U ph)):=by
 intro xs;induction xs with
 | nil=>intro ys p h;cases ys with
   |nil=>simp only[oT,af]at h;subst h;rfl
   |cons y ys=>simp[oT]at h
 | cons x xs ih=>intro ys p h;cases ys with
   |nil=>simp[oT]at h
   | cons y ys=>
     simp only[oT]at h;split at h;rename_i p1 p2 h1 h2;simp only[af]at h;subst h;simp[BE.bY,BE.ae,lV,FG (ph:=ph) h1,ih h2];cases h
theorem HC{t:TypeId}{x y:V1}{p:BE}(h:Vh P t x y=some p)(X Y:Operand) :
   (do eqGuard .eql t X Y (x.ae U ph) (y.ae U ph);binOp .eql t (x.ae U ph) (y.ae U ph):Sem Value).run P w = .ok (.bool (p.ae U)) w/\
   (do eqGuard .neq t X Y (x.ae U ph) (y.ae U ph);binOp .neq t (x.ae U ph) (y.ae U ph):Sem Value).run P w = .ok (.bool (!(p.ae U))) w:=by
 unfold Vh at h;split at h;rename_i a b;split at h;rename_i hu;simp only[af]at h;subst h;constructor;show Sem.run P (do eqGuard .eql t X Y (.bool _) (.bool _);binOp .eql t (.bool _) (.bool _)) w=_;rw[eqGuard_at_bool];simp only[dz,eU,dc];rw[run_eql_bool w t _ _ hu];simp[BE.bY,BE.ae];show Sem.run P (do eqGuard .neq t X Y (.bool _) (.bool _);binOp .neq t (.bool _) (.bool _)) w=_;rw[eqGuard_at_bool];simp only[dz,eU,dc];rw[run_neq_bool w t _ _ hu];simp[BE.bY,BE.ae];cases h;rename_i xs ys;split at h;rename_i ks hk;split at h;rename_i hc;simp only[ah,mG]at hc;obtain⟨⟨⟨⟨hx,hy⟩,B0⟩,hg⟩,Lz⟩:=hc;have he:=vd (P:=P) 16 t ks hk Lz 10000 (by omega) _ _ (sQ (U:=U) (ph:=ph) hx) (sQ (U:=U) (ph:=ph) hy) w;simp only[pv,B0,if_true]at he;have hd:=DK (U:=U) (ph:=ph) h;constructor;simp only[V1.ae,dz,run_eqGuard_agg w _ t X Y _ _ hg,dc,run_eql_struct,he,hd];simp only[V1.ae,dz,run_eqGuard_agg w _ t X Y _ _ hg,dc,run_neq_struct,he,hd];cases h;cases h;cases h
end
section
open Go.RowKit
variable {U:aA}{ph:Ph}{P:Program}
theorem gd(a:Addr)(i j:Nat):(a.add i).add j=a.add (i+j):=by
 unfold Addr.add;by_cases hi:i=0;subst hi;simp;by_cases hj:j=0;subst hj;simp[hi];simp[hi,hj,Nat.add_assoc]
theorem iD(b o j:Nat):(⟨b,o,none⟩:Addr).add j=⟨b,o+j,none⟩:=Addr.add_lit b o j
theorem DL{v:Value}{x:V1}(h:ofConst v=some x):x.ae U ph=v:=by
 unfold ofConst at h;split at h<;>simp only[af,reduceCtorEq]at h<;>subst h<;>rfl
theorem qx{st:St}{G:BE}{x:Operand}{sv:SV}{a:Act}(h:Ja st G x=some sv)(hG:G.ae U=true)(ht:fc U ph st.tmps a.tmps) :
   a.eval x=sv.ae U ph:=by
 unfold Ja at h;split at h;rename_i t;split at h;rename_i s hs;split at h;rename_i hg;simp only[af]at h;subst h;have:=ht.2 t s hs;simp only[Act.eval,Array.getD_eq_getD_getElem?,this,Option.getD_some,aN.ae,BE.cj hg hG,if_true];cases h;cases h;rename_i v;simp only[bl]at h;obtain⟨y,hy,rfl⟩:=h;exact(DL hy).symm;simp only[af]at h;subst h;rfl;cases h
theorem cf{st:St}{G:BE}{x:Operand}{v:V1}{a:Act}(h:jX st G x=some v)(hG:G.ae U=true)(ht:fc U ph st.tmps a.tmps) :
   a.eval x=v.ae U ph:=by
 unfold jX at h;split at h;rename_i y hy;simp only[af]at h;subst h;exact qx hy hG ht;cases h
theorem aq{st:St}{G:BE}{x:Operand}{l:ag}{a:Act}(h:bc st G x=some l)(hG:G.ae U=true)(ht:fc U ph st.tmps a.tmps) :
   a.eval x=l.ae U ph:=by
 unfold bc at h;split at h;rename_i y hy;simp only[af]at h;subst h;exact qx hy hG ht;cases h
theorem dm{st:St}{id:Nat}{b:gD}(h:fo st id=some b):b∈st.aR/\b.id=id:=by
 unfold fo at h;exact⟨B2 h,by simpa using List.find?_some h⟩
theorem aT{st:St}{id:Nat}{r:Row}(h:bp st id=some r):r∈st.rows/\r.id=id:=by
 unfold bp at h;exact⟨B2 h,by simpa using List.find?_some h⟩
theorem cH{st:St}{id:Nat}{r:df}(h:dV st id=some r):r∈st.aV/\r.id=id:=by
 unfold dV at h;exact⟨B2 h,by simpa using List.find?_some h⟩
def Looks(P:Program)(t:TypeId)(v:V1):Prop:=
 (P.underlying t).isSome=true/\0<P.cellsOf t/\((fG P t=true/\∃ls,v = .agg ls/\ls.length=P.cellsOf t)\/(fG P t=false/\∃l,v = .one l))
theorem wg{ls:List ag}{off n:Nat}{r:List ag}(h:FI ls off n=some r):r.length=n/\r=(ls.drop off).take n/\off+n<=ls.length:=by
 unfold FI at h;split at h;simp only[af]at h;subst h;exact⟨by simp;omega,rfl,by assumption⟩;cases h
theorem lW{t:TypeId}{cs:List ag}{off:Nat}{v:V1}(h:qy P t cs off=some v) :
   Looks P t v/\∀j l,v.leaves[j]?=some l->cs[off+j]?=some l:=by
 unfold qy at h;split at h;rename_i hc;simp only[ah,aD]at hc;split at h;rename_i ha;simp only[bl]at h;obtain⟨ls,xV,rfl⟩:=h;obtain⟨h1,h2,h3⟩:=wg xV;refine⟨⟨hc.1,hc.2,.inl ⟨ha,ls,rfl,h1⟩⟩,fun j l hj=>?_⟩;simp only[V1.leaves]at hj;rw[h2,xW]at hj;split at hj;rw[List.getElem?_drop]at hj;exact hj;cases hj;rename_i ha;simp only[bl]at h;obtain⟨l,hl,rfl⟩:=h;refine⟨⟨hc.1,hc.2,.inr ⟨by simpa using ha,l,rfl⟩⟩,fun j l' hj=>?_⟩;simp only[V1.leaves]at hj;cases j with
 |zero=>simp at hj;subst hj;simpa using hl
 |succ j=>simp at hj
 cases h
theorem gL{t:TypeId}{v:V1}{w:World}{a:Addr}(hv:Looks P t v)(hc:∀j l,v.leaves[j]?=some l->w.cell? (a.add j)=some (l.ae U ph)) :
   (loadVar t a).run P w = .ok (v.ae U ph) w:=by
 obtain⟨hu,hs,⟨ha,ls,rfl,hl⟩|⟨ha,l,rfl⟩⟩:=hv;simp only[loadVar,dz,rR hu,dc,ha,if_true,bT hs];have:=run_loadCells_list (P:=P) w a (ls.map (ag.ae U ph)) (fun j u hj=>by
   rw[gJ]at hj;simp only[bl]at hj;obtain⟨l,hl,rfl⟩:=hj;exact hc j l hl)
 rw[kT,hl]at this;simp only[this,dc,eU];rfl;simp only[loadVar,dz,rR hu,dc,ha,iC,if_false];have:=hc 0 l rfl;rw[Addr.add_zero']at this;simp[run_load,this,V1.ae]
theorem vf{t:TypeId}{v:V1}{w:World}{cs:List ag}{off:Nat}(h:qy P t cs off=some v) :
   (part t (cs.map (ag.ae U ph)).toArray off).run P w = .ok (v.ae U ph) w:=by
 obtain⟨⟨hu,hs,hv⟩,hc⟩:=lW h;simp only[part,dz,rR hu,dc];rcases hv with⟨ha,ls,rfl,hl⟩|⟨ha,l,rfl⟩;simp only[ha,if_true,dz,bT hs,dc,eU,V1.ae];congr 2;unfold qy at h;simp only[hu,hs,decide_true,Bool.and_self,if_true,ha,bl]at h;obtain⟨HD,xV,e⟩:=h;obtain⟨h1,h2,h3⟩:=wg xV;simp only[V1.agg.injEq]at e;subst e;apply jv;simp[Array.toList_extract,List.extract_eq_take_drop,h2,List.map_take,List.map_drop];have:=hc 0 l rfl;simp only[gA]at this;simp[ha,this,V1.ae]
theorem Af:∀ {n:Nat} {cells:List ag} {off sz:Nat} {ls:List ag},qz cells off sz n=some ls->ls.length=n/\∀j l,ls[j]?=some l->cells[off+j*sz]?=some l:=by
 intro n;induction n with
 |zero=>intro cells off sz ls h;simp only[qz,af]at h;subst h;simp
 | succ n ih=>
   intro cells off sz ls h;simp only[qz]at h;split at h;rename_i l HD h1 h2;simp only[af]at h;subst h;obtain⟨h3,h4⟩:=ih h2;refine⟨by simp[h3],fun j l' hj=>?_⟩;cases j with
   |zero=>simp at hj;subst hj;simpa using h1
   | succ j=>
     simp only[xO]at hj;have:=h4 j l' hj;rw[j7,Nat.one_mul];rwa[show off+(j*sz+sz)=off+sz+j*sz by omega]
   cases h
theorem DM{x:IE}:∀ {ls:List ag} {j:Nat} {l:ag},rT x j ls=some l->∀i:Nat,x.ae U=((j+i:Nat):Int)->i<ls.length->∃l',ls[i]?=some l'/\l.ae U ph=l'.ae U ph:=by
 intro ls;induction ls with
 |nil=>intro j l h;simp[rT]at h
 | cons l0 ls ih=>
   intro j l h i hx hi;cases ls with
   | nil=>
     simp only[rT,af]at h;subst h;have:i=0:=by simp at hi;exact hi
     subst this;exact⟨l0,rfl,rfl⟩
   | cons l1 ls=>
     simp only[rT]at h;split at h;rename_i k a k' b h1;split at h;rename_i hk;subst hk;simp only[af]at h;subst h;cases i with
     | zero=>
       refine⟨_,rfl,?_⟩;simp only[gA]at hx;simp[ag.ae,IE.ae,hx]
     | succ i=>
       obtain⟨l',tV,he⟩:=ih h1 i (by rw[hx];congr 1;omega) (by simpa using hi);refine⟨l',by simpa using tV,?_⟩;have ck:x.ae U≠(j:Int):=by rw[hx];omega
       rw[<- he];simp[ag.ae,IE.ae,ck]
     cases h;rename_i p q h1;simp only[af]at h;subst h;cases i with
     | zero=>
       refine⟨_,rfl,?_⟩;simp only[gA]at hx;simp[ag.ae,BE.ae,IE.ae,hx]
     | succ i=>
       obtain⟨l',tV,he⟩:=ih h1 i (by rw[hx];congr 1;omega) (by simpa using hi);refine⟨l',by simpa using tV,?_⟩;have ck:x.ae U≠(j:Int):=by rw[hx];omega
       rw[<- he];simp[ag.ae,BE.ae,IE.ae,ck]
     cases h
theorem vg{cells:List ag}{off sz n:Nat}{x:IE}{l:ag}(h:DN cells off sz n x=some l)(h0:0<=x.ae U)(h1:x.ae U<(n:Int)) :
   ∃l',cells[off+(x.ae U).toNat*sz]?=some l'/\l.ae U ph=l'.ae U ph:=by
 unfold DN at h;split at h;rename_i ls xV;obtain⟨e1,e2⟩:=Af xV;obtain⟨l',tV,he⟩:=DM (U:=U) (ph:=ph) h (x.ae U).toNat (by omega) (by omega);exact⟨l',e2 _ l' tV,he⟩;cases h
theorem B3{cells:List ag}{sz n:Nat}{x:IE}(h0:0<=x.ae U)(h1:x.ae U<(n:Int)):∀ {m off:Nat} {ls:List ag},qA cells sz n x off m=some ls->
   ls.length=m/\∀j l,ls[j]?=some l->∃l',cells[off+j+(x.ae U).toNat*sz]?=some l'/\l.ae U ph=l'.ae U ph:=by
 intro m;induction m with
 |zero=>intro off ls h;simp only[qA,af]at h;subst h;simp
 | succ m ih=>
   intro off ls h;simp only[qA]at h;split at h;rename_i l HD h2 h3;simp only[af]at h;subst h;obtain⟨e1,e2⟩:=ih h3;refine⟨by simp[e1],fun j l' hj=>?_⟩;cases j with
   |zero=>simp at hj;subst hj;exact vg h2 h0 h1
   | succ j=>
     simp only[xO]at hj;have:=e2 j l' hj;rwa[show off+1+j=off+(j+1)by omega]at this
   cases h
theorem Ag{lv:Nat}{x:IE}:∀ {ks:List CK} {j0 j:Nat},(lQ lv x j0 ks)[j]?=(ks[j]?).map (oU lv x (j0+j)):=by
 intro ks;induction ks with
 |nil=>intro j0 j;simp[lQ]
 | cons k ks ih=>
   intro j0 j;cases j with
   |zero=>simp[lQ]
   |succ j=>simp only[lQ,xO,ih];rw[show j0+1+j=j0+(j+1)by omega]
theorem qB{lv:Nat}{x:IE}{j:Nat}{k:CK}:(oU lv x j k).ae U ph=k.val (cellAt (U lv).list (x.ae U) j):=by
 cases k<;>rfl
def mP(ph:Ph):ag->Option Nat
 |.p id _=>some (ph.r id)
 |.pi id _ _ _ _=>some (ph.r id)
 |.ep row _ _ _=>(ph.val row).ownBlock
 |.ab row _ _=>(ph.val row).ownBlock
 |_=>none
theorem iE{B:Nat}{r:Row}{w:World}(h:fw B U ph r w){i:Int}(h0:0<=i)(h1:i<((U r.lv).list.length:Int)) :
   ∃a cap,ph.v r.id=(some a,(U r.lv).list.length,cap)/\∀j k,r.ks[j]?=some k->w.cell? (a.add (i.toNat*r.ks.length+j))=some (k.val (cellAt (U r.lv).list i j)):=by
 obtain⟨base,cap,hv,hn,jn,hc⟩:=h.reads;have hlen:0<(U r.lv).list.length:=by omega
 cases base with
 |none=>exact absurd (jn rfl).1 (by omega)
 | some a=>
   have tR:ph.v r.id=(some a,(U r.lv).list.length,cap):=by
     simp only[Ph.val,Value.slice.injEq]at hv;exact Prod.ext hv.1 (Prod.ext hv.2.1 hv.2.2)
   refine⟨a,cap,tR,fun j k hj=>?_⟩;have Fw:j<r.ks.length:=(cC.1 hj).1;have:=lk r.ks (U r.lv).list i.toNat j (by omega) Fw;rw[hj]at this;obtain⟨a',e,la⟩:=hc _ _ this;simp only[af]at e;subst e;exact la
theorem AZ{B:Nat}{st:St}{G:BE}{t:TypeId}{l:ag}{ns:List BE}{v:V1}{w w':World}(h:A0 P st G t l=some (ns,v))(hG:G.ae U=true)(hn:∀n∈ns,n.ae U=true)
   (hm:je B U ph st.aR st.rows w) (hw:∀k,mP ph l=some k->w'.heap[k]?=w.heap[k]?):(Instr.loadAt t (l.ae U ph)).run P w' = .ok (v.ae U ph) w':=by
 unfold A0 at h;split at h;rename_i id off;split at h;rename_i b hb;simp only[bl,ao]at h;obtain⟨v',hv,rfl,rfl⟩:=h;obtain⟨a6,rfl⟩:=dm hb;obtain⟨nW,ix⟩:=lW hv;have LA:=(hm.lP b a6).2;have FJ:=hw _ rfl;rw[LA]at FJ;simp only[Instr.loadAt,ag.ae,Instr.sureAddr,dz,eU,dc];refine gL nW fun j lf hj=>?_;rw[iD,cell_of_row w' _ _ _ _ _ FJ];have:=ix j lf hj;simp[this];cases h;rename_i id off sz n x;split at h;rename_i b hb;obtain⟨a6,rfl⟩:=dm hb;have LA:=(hm.lP b a6).2;have FJ:=hw _ rfl;rw[LA]at FJ;split at h;cases h;rename_i hc;simp only[mG,Bool.not_eq_false,ah,aD]at hc;have fin:∀v:V1,Looks P t v->(∀j l,v.leaves[j]?=some l->∃l',b.cells[off+j+(x.ae U).toNat*sz]?=some l'/\l.ae U ph=l'.ae U ph)->
     (Instr.loadAt t ((ag.pi b.id off sz n x).ae U ph)).run P w' = .ok (v.ae U ph) w':=by
   intro v nW ix;simp only[Instr.loadAt,ag.ae,Instr.sureAddr,dz,eU,dc];refine gL nW fun j lf hj=>?_;obtain⟨l',h1,h2⟩:=ix j lf hj;rw[iD,cell_of_row w' _ _ _ _ _ FJ,show off+(x.ae U).toNat*sz+j=off+j+(x.ae U).toNat*sz by omega];simp[h1,h2]
 split at h;rename_i ha;simp only[bl,ao]at h;obtain⟨ls,xV,rfl,rfl⟩:=h;have h0:=bP (hn _ (aM ..));have h1:=eB (hn _ (aZ _ (aM ..)));obtain⟨e1,e2⟩:=B3 (U:=U) (ph:=ph) (x:=x) (n:=n) h0 h1 xV;exact fin _ ⟨hc.1,hc.2,.inl ⟨ha,ls,rfl,e1⟩⟩ e2;rename_i ha;simp only[bl,ao]at h;obtain⟨lf,hlf,rfl,rfl⟩:=h;have h0:=bP (hn _ (aM ..));have h1:=eB (hn _ (aZ _ (aM ..)));refine fin _ ⟨hc.1,hc.2,.inr ⟨by simpa using ha,lf,rfl⟩⟩ fun j l hj=>?_;cases j with
 | zero=>
   simp only[V1.leaves,jo,af]at hj;subst hj;exact vg hlf h0 h1
 |succ j=>simp[V1.leaves]at hj
 cases h;rename_i row sz x j;split at h;rename_i r hr;obtain⟨a6,rfl⟩:=aT hr;split at h;rename_i hc;simp only[ah,aD]at hc;obtain⟨hg,rfl⟩:=hc;split at h;rename_i v' hv;simp only[af,ao]at h;obtain⟨rfl,rfl⟩:=h;have h0:=bP (hn _ (aM ..));have h1:=eB (hn _ (aZ _ (aM ..)));simp only[IE.ae]at h0 h1;obtain⟨a,cap,iJ,fX⟩:=iE (hm.row r a6 (BE.cj hg hG)) h0 h1;obtain⟨nW,ix⟩:=lW hv;simp only[Instr.loadAt,ag.ae,iJ,Instr.sureAddr,dz,eU,dc];refine gL nW fun jj lf hj=>?_;have:=ix jj lf hj;rw[Ag]at this;simp only[bl,fP]at this;obtain⟨k,hk,rfl⟩:=this;rw[gd,Nat.add_assoc,qB,<- fX _ k hk];refine World.cell?_of_block (w:=w) ?_;have jT:∀n,(a.add n).block=a.block:=fun n=>by unfold Addr.add;split<;>rfl
 rw[jT];exact hw _ (by simp[mP,Ph.val,iJ,Value.ownBlock]);rename_i hv;unfold LB at h;split at h;rename_i k n lR;split at h;rename_i hc;simp only[ah,aD]at hc;simp only[af,ao]at h;obtain⟨rfl,rfl⟩:=h;have hle:=bP (hn _ (aM ..));simp only[IE.ae]at hle;have aY:=hm.row r a6 (BE.cj hg hG);obtain⟨a,cap,iJ,_⟩:=iE aY (i:=0) (Int.le_refl _) (by omega);have Jb:∀q:Nat,q<P.cellsOf t->w.cell? (a.add (n+q))=some (k.val (cellAt (U r.lv).list ((n+q:Nat):Int) 0)):=fun q hq=>by
   obtain⟨a',nX,B4,fX⟩:=iE aY (i:=((n+q:Nat):Int)) (by omega) (by omega);rw[iJ]at B4;simp only[ao,af]at B4;obtain⟨rfl,_⟩:=B4;have:=fX 0 k (by rw[lR];rfl);rw[lR]at this;simp only[List.length_singleton,Nat.mul_one,gA,xe]at this;exact this
 simp only[Instr.loadAt,ag.ae,iJ,Instr.sureAddr,dz,eU,dc,IE.ae];refine gL ⟨hc.1.1,hc.1.2,.inl ⟨hc.2,_,rfl,by simp⟩⟩ fun jj lf hj=>?_;simp only[V1.leaves,gJ,bl]at hj;obtain⟨q,hq,rfl⟩:=hj;obtain⟨Lb,hqe⟩:=cC.1 hq;simp only[List.length_range]at Lb;simp only[List.getElem_range]at hqe;subst hqe;rw[qB,gd,lR];simp only[List.length_singleton,Nat.mul_one,gA,IE.ae];rw[show(Int.ofNat n).toNat=n from rfl,<- Jb jj Lb];refine World.cell?_of_block (w:=w) ?_;have jT:∀n,(a.add n).block=a.block:=fun n=>by unfold Addr.add;split<;>rfl
 rw[jT];exact hw _ (by simp[mP,Ph.val,iJ,Value.ownBlock]);cases h;cases h;cases h;cases h;rename_i row m b;split at h;rename_i r hr;obtain⟨a6,rfl⟩:=aT hr;split at h;rename_i hc;simp only[ah,aD,mG]at hc;obtain⟨⟨⟨⟨hg,lR⟩,hu⟩,mD⟩,hna⟩:=hc;simp only[af,ao]at h;obtain⟨rfl,rfl⟩:=h;have h1:=eB (hn _ (aM ..));have h2:=hn _ (aZ _ (aM ..));rw[BE.bY]at h2;simp only[IE.ae,BE.ae,aD]at h1 h2;obtain⟨a,cap,iJ,fX⟩:=iE (hm.row r a6 (BE.cj hg hG)) (i:=(m:Int)) (by omega) h1;have la:=fX 0 (.i .u8) (by rw[lR];rfl);rw[lR]at la;simp only[List.length_singleton,Nat.mul_one,gA,xe]at la;simp only[Instr.loadAt,ag.ae,iJ,Instr.sureAddr,dz,eU,dc];refine gL ⟨hu,by omega,.inr ⟨hna,_,rfl⟩⟩ fun jj lf hj=>?_;cases jj with
 |succ jj=>simp[V1.leaves]at hj
 | zero=>
   simp only[V1.leaves,jo,af]at hj;subst hj;rw[gd,gA];have hb:∀n,(a.add n).block=a.block:=fun n=>by unfold Addr.add;split<;>rfl
   have:=World.cell?_of_block (w:=w) (w':=w') (a:=a.add m) (by rw[hb];exact hw _ (by simp[mP,Ph.val,iJ,Value.ownBlock]));rw[this,la];simp[ag.ae,CK.val,IE.ae,qt h2]
 cases h;cases h;cases h
end
section
open Go.RowKit
variable {U:aA}{ph:Ph}{P:Program}
theorem B5(bs:List UInt8):(⟨bs.toArray⟩:ByteArray).toList=bs:=by
 rw[ByteArray.toList_eq]
theorem Jc(bs:List UInt8)(i:Nat):(⟨bs.toArray⟩:ByteArray)[i]?=bs[i]? :=by
 by_cases h:i<bs.length;rw[getElem?_pos (⟨bs.toArray⟩:ByteArray) i (by simpa[ByteArray.size]using h),fV h];rfl;rw[getElem?_neg (⟨bs.toArray⟩:ByteArray) i (by simpa[ByteArray.size]using h),tW (by omega)]
theorem sR(bs:List UInt8)(l h:Nat):(⟨bs.toArray⟩:ByteArray).extract l h=⟨((bs.drop l).take (h-l)).toArray⟩:=by
 apply ByteArray.ext;simp
theorem td(bs:List UInt8):(⟨bs.toArray⟩:ByteArray).size=bs.length:=by simp[ByteArray.size]
theorem DO{B:Nat}{st:St}{G:BE}{t:TypeId}{X Y:Operand}{x y:V1}{ns:List BE}{p:BE}{w w':World}(h:RC P st G t X Y x y=some (ns,p))(hG:G.ae U=true)(hn:∀n∈ns,n.ae U=true)(hm:je B U ph st.aR st.rows w) :
   (do eqGuard .eql t X Y (x.ae U ph) (y.ae U ph);binOp .eql t (x.ae U ph) (y.ae U ph):Sem Value).run P w' = .ok (.bool (p.ae U)) w'/\
   (do eqGuard .neq t X Y (x.ae U ph) (y.ae U ph);binOp .neq t (x.ae U ph) (y.ae U ph):Sem Value).run P w' = .ok (.bool (!(p.ae U))) w':=by
 have sl:∀(a:Option Addr) (l c:Nat),(eqGuard .eql t X Y (.slice a l c) (.slice none 0 0)=pure ())/\(eqGuard .neq t X Y (.slice a l c) (.slice none 0 0)=pure ()):=fun a l c=>⟨rfl,rfl⟩;unfold RC at h;split at h;split at h;rename_i e hu;simp only[af,ao]at h;obtain⟨rfl,rfl⟩:=h;simp only[V1.ae,ag.ae,(sl none 0 0).1,(sl none 0 0).2];constructor;simp[Lib.run_eql_slice_nil w' t e none 0 0 0 0 hu,BE.ae];simp[run_neq_slice_nil w' t e none 0 0 hu,BE.ae];cases h;rename_i row;split at h;rename_i e r hu hr;split at h;rename_i hg;simp only[af,ao]at h;obtain⟨rfl,rfl⟩:=h;obtain⟨a6,rfl⟩:=aT hr;have h1:=eB (hn _ (aM ..));simp only[IE.ae]at h1;obtain⟨a,cap,iJ,_⟩:=iE (hm.row r a6 (BE.cj hg hG)) (i:=0) (Int.le_refl _) h1;simp only[V1.ae,ag.ae,Ph.val,iJ,(sl (some a) _ cap).1,(sl (some a) _ cap).2];constructor;simp[Lib.run_eql_slice_nil w' t e (some a) _ cap 0 0 hu,BE.ae];simp[run_neq_slice_nil w' t e (some a) _ cap hu,BE.ae];cases h;cases h;rename_i a b;split at h;rename_i hu;simp only[af,ao]at h;obtain⟨rfl,rfl⟩:=h;simp only[V1.ae,ag.ae,eqGuard_at_string,binOp_string_eql,binOp_string_neq,B5];constructor;simp[BE.ae];by_cases e:a=b<;>simp[e];simp[BE.ae];by_cases e:a=b<;>simp[e];cases h;split at h;rename_i ms hu;split at h;rename_i hc;simp only[af,ao]at h;obtain⟨rfl,rfl⟩:=h;have hi:P.isIface t=true:=by simp[Program.isIface,hu]
 have g:∀op:BinOp,eqGuard op t X Y .nilIface .nilIface=pure ():=fun op=>by
   cases X with
   |const c=>exact eqGuard_nil_constL ..
   | _=>cases Y with
     |const c=>exact eqGuard_nil_constR ..
     |_=>simp[isConst]at hc
 simp only[V1.ae,ag.ae,g];constructor;simp[run_eql_nil_nil_at w' t hi,BE.ae];simp[run_neq_nil_nil_at w' t hi,BE.ae];cases h;cases h;cases h
theorem LC{B:Nat}{r:Row}{w:World}(h:fw B U ph r w){sz:Nat}{lo n:IE}(h0:0<=lo.ae U)(hn:0<n.ae U)(hl:lo.ae U+n.ae U<=((U r.lv).list.length:Int)) :
   ∃a cap,ph.v r.id=(some a,(U r.lv).list.length,cap)/\(ag.vw r.id sz lo n).ae U ph = .slice (some (a.add ((lo.ae U).toNat*sz))) (n.ae U).toNat (cap-(lo.ae U).toNat):=by
 obtain⟨a,cap,iJ,_⟩:=iE h h0 (by omega);refine⟨a,cap,iJ,?_⟩;obtain⟨base,nX,hv,hlen,_⟩:=h.reads;simp only[Ph.val,iJ,Value.slice.injEq]at hv;obtain⟨_,_,rfl⟩:=hv;simp only[ag.ae,iJ];rw[if_neg (by omega)];rfl
theorem pW{t e:TypeId}{a:Addr}{len cap:Nat}{k:IntKind}{i:Int}{w:World}(hu:P.underlying t=some (.slice e))(h0:0<=i)(h1:i<(len:Int))(hs:0<P.cellsOf e) :
   (Instr.indexAt t (.slice (some a) len cap) (.int k i)).run P w = .ok (.pointer (some (a.add (i.toNat*P.cellsOf e)))) w:=by
 have he:P.elem t=e:=by simp[Program.elem,hu]
 rw[run_indexAt_slice w t a len cap k i (by rw[he];exact hu),he,if_pos ⟨h0,h1⟩,bT hs];rfl
theorem nY{t e:TypeId}{a:Addr}{len cap:Nat}{k:IntKind}{i:Int}{w:World}(hu:P.underlying t=some (.slice e))(h0:0<=i)(h1:i<(len:Int))(hs:(P.info? e).isSome=true) :
   (Instr.indexAt t (.slice (some a) len cap) (.int k i)).run P w = .ok (.pointer (some (a.add (i.toNat*P.cellsOf e)))) w:=by
 have he:P.elem t=e:=by simp[Program.elem,hu]
 obtain⟨info,hi⟩:=xT.1 hs;rw[run_indexAt_slice w t a len cap k i (by rw[he];exact hu),he,if_pos ⟨h0,h1⟩];simp[sizeOf,typeInfo,hi,Program.cellsOf]
theorem LD{B:Nat}{r:Row}{w w':World}(h:fw B U ph r w){t e:TypeId}{k:IntKind}{sz:Nat}{lo n i:IE}(hu:P.underlying t=some (.slice e))(hc:P.cellsOf e=sz)(hk:r.ks.length=sz)(h0:0<=lo.ae U)(hl:lo.ae U+n.ae U<=((U r.lv).list.length:Int))(te:0<=i.ae U)(HE:i.ae U<n.ae U) :
   (Instr.indexAt t ((ag.vw r.id sz lo n).ae U ph) (.int k (i.ae U))).run P w' = .ok ((ag.ep r.id sz (IE.add lo i).mk 0).ae U ph) w':=by
 obtain⟨a,cap,iJ,hd⟩:=LC (sz:=sz) h h0 (by omega) hl;rw[hd,pW hu te (by omega) (by rw[hc,<- hk];exact h.1)];simp only[ag.ae,iJ,IE.bY,IE.ae,hc,gd,gA];congr 4;rw[<- j7];congr 1;omega
theorem LF{B:Nat}{r:Row}{w w':World}(h:fw B U ph r w){t e:TypeId}{k:IntKind}{bs:List UInt8}{m:Int}{b:UInt8}(hu:P.underlying t=some (.slice e))(hc:P.cellsOf e=1)(hk:r.ks.length=1)(h0:0<=m)(h1:m<((U r.lv).list.length:Int)) :
   (Instr.indexAt t ((ag.kb r.id bs).ae U ph) (.int k m)).run P w' = .ok ((ag.ab r.id m.toNat b).ae U ph) w':=by
 obtain⟨a,cap,iJ,_⟩:=iE h h0 h1;simp only[ag.ae,Ph.val,iJ];rw[pW hu h0 h1 (by omega)];simp[hc]
theorem Jd:∀ {ls:List ag} {xs:List cO},DP ls=some xs->ls.map (ag.ae U ph)=xs.map (cO.ae U ph):=by
 intro ls;induction ls with
 |nil=>intro xs h;simp only[DP,af]at h;subst h;rfl
 | cons l ls ih=>
   intro xs h;simp only[DP]at h;split at h;rename_i x k9 hx qe;simp only[af]at h;subst h;rw[ag.down_up hx];simp[cO.BU,ih qe];cases h
theorem ka{k:IntKind}{i:Int}{y:Nat}{c:BoundsCode}{w:World}(h0:0<=i)(h1:i<=(y:Int)):(Instr.sliceBound (.int k i) y c).run P w = .ok i.toNat w:=by
 simp[Instr.sliceBound,asIntOf,h0,h1]
theorem sS{t e:TypeId}{x:Value}{lo hi mx:Option Value}{w:World}(hu:P.underlying t=some (.slice e)):(Instr.sliceAt t x lo hi mx).run P w=(Instr.slice t x lo hi mx).run P w:=by
 simp[Instr.sliceAt,run_underlying hu]
theorem wh{t:TypeId}{x:Value}{lo hi mx:Option Value}{w:World}(hu:P.underlying t=some .string):(Instr.sliceAt t x lo hi mx).run P w=(Instr.slice t x lo hi mx).run P w:=by
 simp[Instr.sliceAt,run_underlying hu]
theorem A1{t e:TypeId}{base:Option Addr}{len cap:Nat}{lo hi:Int}{kl:IntKind}{w:World}(hu:P.underlying t=some (.slice e))(hv:Option Value)(hh:hi=(match hv with|none=>(len:Int)|some (.int _ n)=>n|some _=>hi))(hk:∀v,hv=some v->∃k,v = .int k hi)(h0:0<=lo)(h1:lo<=hi)(h2:hi<=(cap:Int))(hs:0<P.cellsOf e) :
   (Instr.sliceAt t (.slice base len cap) (some (.int kl lo)) hv none).run P w = .ok (.slice (if cap=lo.toNat then base else base.map (·.add (lo.toNat*P.cellsOf e))) (hi-lo).toNat (cap-lo.toNat)) w:=by
 rw[sS hu];have e1:(Instr.sliceBounds true len cap (some (.int kl lo)) hv none).run P w = .ok (lo.toNat,hi.toNat,cap) w:=by
   cases hv with
   | none=>
     simp only at hh;subst hh;simp[Instr.sliceBounds,ka h0 h1]
   | some v=>
     obtain⟨k,rfl⟩:=hk v rfl;simp[Instr.sliceBounds,ka (show 0<=hi by omega) h2,ka h0 (show lo<=(hi.toNat:Int)by omega)]
 simp only[Instr.slice,dz,run_underlying hu,dc,e1,bT hs,eU];congr 3;omega
theorem FK{t e:TypeId}{base:Option Addr}{len cap:Nat}{kh km:IntKind}{w:World}(hu:P.underlying t=some (.slice e))(h2:len<=cap)(hs:0<P.cellsOf e) :
   (Instr.sliceAt t (.slice base len cap) none (some (.int kh (len:Int))) (some (.int km (len:Int)))).run P w = .ok (.slice base len len) w:=by
 rw[sS hu];have e1:(Instr.sliceBounds true len cap none (some (.int kh (len:Int))) (some (.int km (len:Int)))).run P w = .ok (0,len,len) w:=by
   simp[Instr.sliceBounds,ka (P:=P) (w:=w) (k:=km) (c:=.slice3Acap) (show(0:Int)<=(len:Int)by omega) (show(len:Int)<=(cap:Int)by omega),ka (P:=P) (w:=w) (k:=kh) (c:=.slice3B) (y:=len) (show(0:Int)<=(len:Int)by omega) (Int.le_refl _)]
 simp only[Instr.slice,dz,run_underlying hu,dc,e1,bT hs,eU];cases base with
 |none=>simp
 |some a=>simp[Addr.add_zero']
theorem DQ{t:TypeId}{bs:List UInt8}{lo:Int}{kl:IntKind}{w:World}(hu:P.underlying t=some .string)(h0:0<=lo)(h1:lo<=(bs.length:Int)) :
   (Instr.sliceAt t (.string ⟨bs.toArray⟩) (some (.int kl lo)) none none).run P w = .ok (.string ⟨(bs.drop lo.toNat).toArray⟩) w:=by
 rw[wh hu];have e1:(Instr.sliceBounds false bs.length bs.length (some (.int kl lo)) none none).run P w = .ok (lo.toNat,bs.length,bs.length) w:=by
   simp[Instr.sliceBounds,ka h0 h1]
 simp only[Instr.slice,dz,run_underlying hu,dc,td,eU,sR];simp only[Option.isSome_none,iC,if_false,dz,eU,dc];rw[e1];simp only[dc];rw[oV (by simp)]
theorem Je{t:TypeId}{bs:List UInt8}{hi:Int}{kh:IntKind}{w:World}(hu:P.underlying t=some .string)(h0:0<=hi)(h1:hi<=(bs.length:Int)) :
   (Instr.sliceAt t (.string ⟨bs.toArray⟩) none (some (.int kh hi)) none).run P w = .ok (.string ⟨(bs.take hi.toNat).toArray⟩) w:=by
 rw[wh hu];have e1:(Instr.sliceBounds false bs.length bs.length none (some (.int kh hi)) none).run P w = .ok (0,hi.toNat,bs.length) w:=by
   simp[Instr.sliceBounds,ka h0 h1]
 simp only[Instr.slice,dz,run_underlying hu,dc,td,eU,sR];simp only[Option.isSome_none,iC,if_false,dz,eU,dc];rw[e1];simp
end
section
open Go.RowKit
variable {U:aA}{ph:Ph}{P:Program}
theorem ag.eN(l:ag):(l.ae U ph).cells = #[l.ae U ph]:=by
 cases l with
 |ep row sz x j=>simp only[ag.ae];cases(ph.v row).1<;>rfl
 |ab row m b=>simp only[ag.ae];cases(ph.v row).1<;>rfl
 |_=>rfl
theorem V1.eN(v:V1):(v.ae U ph).cells=(v.leaves.map (ag.ae U ph)).toArray:=by
 cases v with
 |one l=>simp[V1.ae,V1.leaves,ag.eN]
 |agg ls=>simp[V1.ae,V1.leaves,Value.cells]
theorem ag.wi(l:ag):(l.ae U ph).oneCell'=true:=by
 cases l with
 |ep row sz x j=>simp only[ag.ae];cases(ph.v row).1<;>rfl
 |ab row m b=>simp only[ag.ae];cases(ph.v row).1<;>rfl
 |_=>rfl
theorem lr:∀(ls cells:List ag) (off:Nat),(gM cells off ls).map (ag.ae U ph) =
   ((ls.map (ag.ae U ph)).zipIdx 0).foldl (fun cs x=>cs.set (off+x.2) x.1) (cells.map (ag.ae U ph)):=by
 have gen:∀(ls cells:List ag) (off k:Nat),(gM cells (off+k) ls).map (ag.ae U ph) =
     ((ls.map (ag.ae U ph)).zipIdx k).foldl (fun cs x=>cs.set (off+x.2) x.1) (cells.map (ag.ae U ph)):=by
   intro ls;induction ls with
   |nil=>intro cells off k;rfl
   | cons l ls ih=>
     intro cells off k;simp only[gM,jt,List.zipIdx_cons,vh];rw[show off+k+1=off+(k+1)by omega,ih];simp[List.map_set]
 intro ls cells off;simpa using gen ls cells off 0
theorem vi(vs:List Value)(cs:Array Value)(off:Nat) :
   (vs.toArray.zipIdx.foldl (fun cs (x:Value×Nat)=>cs.setIfInBounds (off+x.2) x.1) cs).toList=(vs.zipIdx 0).foldl (fun cs x=>cs.set (off+x.2) x.1) cs.toList:=by
 rw[<- Array.foldl_toList];simp only[Array.toList_zipIdx,BY];generalize vs.zipIdx 0=l;induction l generalizing cs with
 |nil=>rfl
 |cons x l ih=>simp only[vh];rw[ih];simp
theorem FL(place:Nat->Option (Nat×Nat)):∀(ps:List (Nat×V1)) (cells r:List ag),A2 place cells ps=some r->
   Instr.fill place (cells.map (ag.ae U ph)).toArray (ps.map fun p=>(p.1,p.2.ae U ph))=some (r.map (ag.ae U ph)).toArray:=by
 intro ps;induction ps with
 |nil=>intro cells r h;simp only[A2,af]at h;subst h;rfl
 | cons p ps ih=>
   intro cells r h;obtain⟨i,v⟩:=p;simp only[A2]at h;split at h;cases h;rename_i off size hp;split at h;cases h;rename_i hc;simp only[not_or,ne_eq,Decidable.not_not,Nat.not_lt]at hc;simp only[jt,Instr.fill,hp,V1.eN];rw[if_neg (by simp;omega)];rw[<- ih _ _ h];congr 1;apply jv;rw[vi];simp[lr]
theorem nB{st:St}{G:BE}{a:Act}(hG:G.ae U=true)(ht:fc U ph st.tmps a.tmps):∀ {l:List (Nat×Operand)} {ps:List (Nat×V1)},gp st G l=some ps->
   (l.map fun p=>(p.1,a.eval p.2))=ps.map fun p=>(p.1,p.2.ae U ph):=by
 intro l;induction l with
 |nil=>intro ps h;simp only[gp,af]at h;subst h;rfl
 | cons p l ih=>
   intro ps h;obtain⟨i,x⟩:=p;simp only[gp]at h;split at h;rename_i v l' h1 h2;simp only[af]at h;subst h;simp only[jt,ih h2,cf h1 hG ht];cases h
theorem tX{v:Value}{l:ag}(h:qC v=some l):l.ae U ph=v:=by
 unfold qC at h;split at h<;>simp only[af,reduceCtorEq]at h<;>subst h<;>rfl
theorem Ah:∀ {vs:List Value} {ls:List ag},vs.mapM qC=some ls->ls.map (ag.ae U ph)=vs:=by
 intro vs;induction vs with
 |nil=>intro ls h;simp at h;subst h;rfl
 | cons v vs ih=>
   intro ls h;rw[List.mapM_cons]at h;simp only[bind,Option.bind_eq_some_iff,pure,af]at h;obtain⟨l,h1,HD,h2,rfl⟩:=h;simp[tX h1,ih h2]
theorem vj{t:TypeId}{v:V1}{w:World}(h:nZ P t=some v):(zeroValue t).run P w = .ok (v.ae U ph) w:=by
 unfold nZ at h;cases hi:P.info? t with
 |none=>simp[hi]at h
 | some i=>
   cases hz:i.zero with
   |none=>simp[hi,hz]at h
   | some z=>
     simp only[hi,Option.bind_some,hz]at h;have:(zeroValue t).run P w = .ok z w:=by simp[zeroValue,typeInfo,hi,hz]
     rw[this];congr 1;split at h;rename_i cs e;simp only[bl]at h;obtain⟨ls,xV,rfl⟩:=h;simp only[af]at e;subst e;simp[V1.ae,Ah xV];rename_i u _ e;simp only[bl]at h;obtain⟨l,hl,rfl⟩:=h;simp only[af]at e;subst e;exact(tX hl).symm;rename_i e;cases e
theorem fg{t:TypeId}{w:World}(h:(P.info? t).isSome=true):(sizeOf t).run P w = .ok (P.cellsOf t) w:=by
 obtain⟨i,hi⟩:=xT.1 h;simp[sizeOf,typeInfo,hi,Program.cellsOf]
theorem run_places{w:World}:∀(fs:List Field),fs.all (fun f=>(P.info? f.type).isSome)=true->
   (fs.mapM fun(f:Field)=>(do pure (f.offset,<- sizeOf f.type):Sem (Nat×Nat))).run P w = .ok (fs.map fun(f:Field)=>(f.offset,P.cellsOf f.type)) w:=by
 intro fs;induction fs with
 |nil=>intro _;rfl
 | cons f fs ih=>
   intro h;simp only[List.all_cons,ah]at h;rw[List.mapM_cons];simp only[dz,fg h.1,dc,eU,ih h.2,jt]
theorem run_build{t:TypeId}{parts:Array (Nat×Value)}{ps:List (Nat×V1)}{z r:List ag}{place:Nat->Option (Nat×Nat)}{w:World}(hz:nZ P t=some (.agg z))(hp:tf P t=some place)
   (hf:A2 place z ps=some r) (DF:parts.toList=ps.map fun p=>(p.1,p.2.ae U ph)):(Instr.build t parts).run P w = .ok (.agg (r.map (ag.ae U ph)).toArray) w:=by
 have hzr:=vj (U:=U) (ph:=ph) (w:=w) hz;have TX:=FL (U:=U) (ph:=ph) place ps z r hf;unfold tf at hp;simp only[Instr.build,dz,hzr,dc,V1.eN,V1.leaves];split at hp;rename_i fs hu;split at hp;rename_i b6;simp only[af]at hp;subst hp;simp only[run_underlying hu,dc,dz];have hpl:=run_places (P:=P) (w:=w) fs.toList b6;have:(fs.mapM fun(f:Field)=>(do pure (f.offset,<- sizeOf f.type):Sem (Nat×Nat))).run P w = .ok (fs.map fun(f:Field)=>(f.offset,P.cellsOf f.type)) w:=by
   rw[Array.mapM_eq_mapM_toList];simp only[Sem.run_map,hpl,dc];congr 1;apply jv;simp
 rw[this];simp only[dc,DF];have e:(fun(x:Nat)=>(fs.map fun(f:Field)=>(f.offset,P.cellsOf f.type))[x]?)=fun(i:Nat)=>(fs[i]?).map fun(f:Field)=>(f.offset,P.cellsOf f.type):=by
   funext i;simp
 rw[e,TX];rfl;cases hp;rename_i n e hu;split at hp;rename_i hi;simp only[af]at hp;subst hp;simp only[run_underlying hu,dc,dz,fg hi,DF,TX];rfl;cases hp;cases hp
theorem dp{o:Oper}{a:Act}{b:Builtin}{args:Array Operand}{LG:Array TypeId}{w:World}{x:Value}(ho:o.op = .call {callee:=.builtin b,args,argTypes:=LG})
   (hb:∀ts ty cs vs,builtin b ts ty cs vs=(do pure (.value (<- (match b with| .len=>Builtin.len_ ts ty vs| .max=>Builtin.max_ ts ty vs| .min=>Builtin.min_ ts ty vs|_=>Builtin.append_ ts ty vs)))))
   (hr:(match b with| .len=>Builtin.len_ LG o.type (args.map a.eval)| .max=>Builtin.max_ LG o.type (args.map a.eval)| .min=>Builtin.min_ LG o.type (args.map a.eval)|_=>Builtin.append_ LG o.type (args.map a.eval)).run P w = .ok x w) :
   (execOp a.eval o).run P w = .ok (.value x) w:=by
 simp only[execOp,ho,resolve,dz,eU,dc,invoke,hb,hr]
theorem HF{args:Array Operand}{x y:Operand}(h:args.toList=[x,y])(f:Operand->Value):args.map f = #[f x,f y]:=by
 apply jv;simp[h]
theorem A3{args:Array Operand}{x y z:Operand}(h:args.toList=[x,y,z])(f:Operand->Value):args.map f = #[f x,f y,f z]:=by
 apply jv;simp[h]
theorem oW{args:Array Operand}{x:Operand}(h:args.toList=[x])(f:Operand->Value):args.map f = #[f x]:=by
 apply jv;simp[h]
theorem Vk(a b:Int):(if b>a then b else a)=Max.max a b:=by omega
theorem Vl(a b:Int):(if b<a then b else a)=Min.min a b:=by omega
theorem DR{row sz:Nat}{i:IE}{j o:Nat}:(B6 row sz i j o).ae U ph=(ag.ep row sz i (j+o)).ae U ph:=by
 unfold B6;split;simp only[ag.ae,IE.ae,xe,Nat.mul_one,gA,fP];rfl;rfl
theorem kD{c:Bool×Nat}:(oX c).ae U ph=kR ph c:=by
 unfold oX kR;split;simp only[ag.ae,IE.ae];cases(ph.v c.2).1 with
 |none=>rfl
 |some a=>simp[Addr.add_zero']
 rfl
theorem B7{st:St}{G:BE}{a:Act}(hG:G.ae U=true)(ht:fc U ph st.tmps a.tmps):∀ {xs:List Operand} {cS:List (Bool×Nat)},qD st G xs=some cS->xs.map a.eval=cS.map (kR ph):=by
 intro xs;induction xs with
 |nil=>intro cS h;simp only[qD,af]at h;subst h;rfl
 | cons x xs ih=>
   intro cS h;simp only[qD]at h;split at h;rename_i id l hx hl;simp only[af]at h;subst h;have:=kD (U:=U) (ph:=ph) (c:=(false,id));simp only[jt,ih hl,aq hx hG ht,<- this];rfl;rename_i row l hx hl;simp only[af]at h;subst h;have:=kD (U:=U) (ph:=ph) (c:=(true,row));simp only[jt,ih hl,aq hx hG ht,<- this];rfl;cases h
def HG(st:St)(G:BE)(ph:Ph):Op->Option Nat
 |.load _ x=>(bc st G x).bind (mP ph)
 |_=>none
theorem HH{B:Nat}{wr:Bool}{st:St}{G:BE}{o:Oper}{ns:List BE}{sv:SV}{a:Act}{w w':World}(h:Vm P wr st G o.op=some (ns,sv))(hG:G.ae U=true)
   (hn:∀n∈ns,n.ae U=true) (ht:fc U ph st.tmps a.tmps) (hm:je B U ph st.aR st.rows w) (hN:∀n∈st.aV,n.g.ae U=true->aac U ph n/\0<n.aH.length) (hw:∀k,HG st G ph o.op=some k->w'.heap[k]?=w.heap[k]?) :
   (execOp a.eval o).run P w' = .ok (.value (sv.ae U ph)) w':=by
 unfold Vm at h;split at h
 ·
   rename_i x heq;simp only[bl,ao]at h;obtain⟨v,hv,rfl,rfl⟩:=h;simp only[execOp,heq,eU,qx hv hG ht]
 ·
   rename_i x heq;simp only[bl,ao]at h;obtain⟨v,hv,rfl,rfl⟩:=h;simp only[execOp,heq,eU,qx hv hG ht]
 ·
   rename_i c x y heq;split at h
   . rename_i p hp;split at h
     . rename_i bx by' hx hy
       simp only[af,ao]at h;obtain⟨rfl,rfl⟩:=h;have ec:=aq hp hG ht;simp only[ag.ae]at ec;have res:∀q:BE,q.ae U=(if p.ae U then bx.ae U else by'.ae U)->(execOp a.eval o).run P w' = .ok (.value (.bool (q.ae U))) w':=by
         intro q hq;simp only[execOp,heq,ec,asBool,dz,eU,dc,hq];cases hpd:p.ae U with
         | true=>
           have:=aq hx (by rw[BE.bY];simp[BE.ae,hG,hpd]) ht;simp[this,ag.ae]
         | false=>
           have:=aq hy (by rw[BE.bY];simp[BE.ae,BE.bY,hG,hpd]) ht;simp[this,ag.ae]
       refine res _ ?_;split
       all_goals
         simp only[BE.bY,BE.ae];cases p.ae U<;>simp
     cases h
   cases h
 ·
   rename_i t x y u heq;split at h;rename_i k e k' e' h1 h2;simp only[bl,ao]at h;obtain⟨⟨oY,l⟩,hb,rfl,rfl⟩:=h;have:=xS (P:=P) (w:=w') (ph:=ph) t x y hb hn;simp only[execOp,heq,cf h1 hG ht,cf h2 hG ht,V1.ae];simp only[dz]at this ⊢;rw[this];rfl;rename_i e e' _ h1 h2;split at h;rename_i r hq;simp only[af,ao]at h;obtain⟨rfl,rfl⟩:=h;have:=(DO (w':=w') hq hG hn hm).1;simp only[execOp,heq,cf h1 hG ht,cf h2 hG ht];simp only[dz]at this ⊢;rw[this];rfl;simp only[bl,ao]at h;obtain⟨p,hb,rfl,rfl⟩:=h;have:=(HC (P:=P) (w:=w') (U:=U) (ph:=ph) hb x y).1;simp only[execOp,heq,cf h1 hG ht,cf h2 hG ht];simp only[dz]at this ⊢;rw[this];rfl;cases h
 ·
   rename_i t x y u heq;split at h;rename_i k e k' e' h1 h2;simp only[bl,ao]at h;obtain⟨⟨oY,l⟩,hb,rfl,rfl⟩:=h;have:=xS (P:=P) (w:=w') (ph:=ph) t x y hb hn;simp only[execOp,heq,cf h1 hG ht,cf h2 hG ht,V1.ae];simp only[dz]at this ⊢;rw[this];rfl;rename_i e e' _ h1 h2;split at h;rename_i r hq;simp only[af,ao]at h;obtain⟨rfl,rfl⟩:=h;have:=(DO (w':=w') hq hG hn hm).2;simp only[execOp,heq,cf h1 hG ht,cf h2 hG ht];simp only[dz]at this ⊢;rw[this];simp[SV.ae,V1.ae,ag.ae,BE.bY,BE.ae];simp only[bl,ao]at h;obtain⟨p,hb,rfl,rfl⟩:=h;have:=(HC (P:=P) (w:=w') (U:=U) (ph:=ph) hb x y).2;simp only[execOp,heq,cf h1 hG ht,cf h2 hG ht];simp only[dz]at this ⊢;rw[this];simp[SV.ae,V1.ae,ag.ae,BE.bY,BE.ae];cases h
 ·
   rename_i op t x y u _ _ heq;split at h;rename_i l1 l2 h1 h2;simp only[bl,ao]at h;obtain⟨⟨oY,l⟩,hb,rfl,rfl⟩:=h;have:=xS (P:=P) (w:=w') (ph:=ph) t x y hb hn;simp only[execOp,heq,aq h1 hG ht,aq h2 hG ht];simp only[dz]at this ⊢;rw[this];rfl;cases h
 ·
   rename_i t x heq;split at h;rename_i p hp;simp only[af,ao]at h;obtain⟨rfl,rfl⟩:=h;simp only[execOp,heq,aq hp hG ht,ag.ae,Op.unary,dz,eU,dc,SV.ae,V1.ae,BE.bY,BE.ae];cases h
 ·
   rename_i t x heq;split at h;rename_i k e he;simp only[af,ao]at h;obtain⟨rfl,rfl⟩:=h;have:=jf (U:=U) (ph:=ph) hn;simp only[execOp,heq,aq he hG ht,Op.unary,Op.intArith,SV.ae,V1.ae,this];simp[ag.ae,Op.unary,Op.intArith,IE.ae];cases h
 ·
   rename_i src dst x heq;split at h;rename_i k e d k' he hs hd;have hk:P.intKind dst=k':=by simp[Program.intKind,hd]
   have cd:∀n:Int,(convert src dst (.int k n)).run P w' = .ok (.int k' (k'.wrap n)) w':=fun n=>by
     have:=run_convert_int (P:=P) w' src dst k n (by rw[hs];rfl) (by rw[hk];exact hd);rw[hk]at this;exact this
   split at h;simp only[af,ao]at h;obtain⟨rfl,rfl⟩:=h;have:=jf (U:=U) (ph:=ph) hn;simp only[SV.ae,V1.ae,this];simp only[execOp,heq,aq he hG ht,ag.ae,dz,cd,dc,eU];simp only[af,ao]at h;obtain⟨rfl,rfl⟩:=h;simp only[execOp,heq,aq he hG ht,ag.ae,dz,cd,dc,eU,SV.ae,V1.ae,IE.bY,IE.ae];cases h
 ·
   rename_i t x heq;split at h;rename_i l hl;simp only[bl,ao]at h;obtain⟨⟨oY,v⟩,hb,rfl,rfl⟩:=h;have:=AZ (w':=w') hb hG hn hm (fun k hk=>hw k (by simp[HG,heq,hl,hk]));simp only[execOp,heq,aq hl hG ht,dz,this,dc,eU,SV.ae];cases h
 ·
   rename_i s x f heq;have hfo:∀o' t',qE P s f=some (o',t')->∀ad:Addr,(Instr.fieldAt s (.pointer (some ad)) f).run P w' = .ok (.pointer (some (ad.add o'))) w':=by
     intro o' t' ho ad;unfold qE at ho;split at ho;rename_i fs hu;split at ho;rename_i fd RD;split at ho;cases ho;rename_i ck;simp only[af,ao]at ho;obtain⟨rfl,rfl⟩:=ho;simp only[Instr.fieldAt,dz,run_underlying hu,dc,RD,Instr.sureAddr,eU,fieldPlace,bT (P:=P) (w:=w') (t:=fd.type) (by omega)];simp[ck];cases ho;cases ho
   split at h;rename_i id off o' t' hx ho;simp only[af,ao]at h;obtain⟨rfl,rfl⟩:=h;simp only[execOp,heq,aq hx hG ht,ag.ae,dz,hfo _ _ ho,dc,eU,SV.ae,V1.ae,iD];rename_i id off sz n z o' t' hx ho;simp only[af,ao]at h;obtain⟨rfl,rfl⟩:=h;simp only[execOp,heq,aq hx hG ht,ag.ae,dz,hfo _ _ ho,dc,eU,SV.ae,V1.ae,iD];rw[show off+(z.ae U).toNat*sz+o'=off+o'+(z.ae U).toNat*sz by omega]
   . rename_i row sz z j o' t' hx ho;split at h;rename_i r hr;split at h;rename_i hc;simp only[af,ao]at h;obtain⟨rfl,rfl⟩:=h;obtain⟨a6,rfl⟩:=aT hr;have h0:=bP (hn _ (aM ..));have h1:=eB (hn _ (aZ _ (aM ..)));simp only[IE.ae]at h0 h1;obtain⟨ad,cap,iJ,_⟩:=iE (hm.row r a6 (BE.cj hc hG)) h0 h1;simp only[SV.ae,V1.ae,DR];simp only[execOp,heq,aq hx hG ht,ag.ae,iJ,dz,hfo _ _ ho,dc,eU,gd,Nat.add_assoc];cases h;split at h
     . rename_i r hr;split at h
       . rename_i hc;simp only[af,ao]at h;obtain⟨rfl,rfl⟩:=h;obtain⟨a6,rfl⟩:=cH hr;have h0:=bP (hn _ (aM ..));have h1:=eB (hn _ (aZ _ (aM ..)));simp only[IE.ae]at h0 h1;obtain⟨⟨base,cap,iJ,_,jn⟩,_⟩:=hN r a6 (BE.cj hc hG);cases base with
         |none=>have:=(jn rfl).1;omega
         |some ad=>
         have B4:ph.v r.id=(some ad,(U r.lv).list.length,cap):=by
           simp only[Ph.val,Value.slice.injEq]at iJ;exact Prod.ext iJ.1 (Prod.ext iJ.2.1 iJ.2.2)
         simp only[execOp,heq,aq hx hG ht,SV.ae,V1.ae,ag.ae,B4,dz,hfo _ _ ho,dc,eU,gd,Nat.add_assoc]
       cases h
     cases h
   cases h
 ·
   rename_i s x f heq;split at h;rename_i cs o' t' hx ho;simp only[bl,ao]at h;obtain⟨v,hv,rfl,rfl⟩:=h;unfold qE at ho;split at ho;rename_i fs hu;split at ho;rename_i fd RD;split at ho;cases ho;simp only[af,ao]at ho;obtain⟨rfl,rfl⟩:=ho;simp only[execOp,heq,cf hx hG ht,V1.ae,Instr.field,dz,run_underlying hu,dc,RD,asAgg,eU,vf hv,SV.ae];cases ho;cases ho;cases h
 ·
   rename_i t x i heq;split at h
   . rename_i l k e hl hi;simp only[bl,ao]at h;obtain⟨⟨oY,l'⟩,hb,rfl,rfl⟩:=h;simp only[execOp,heq,aq hl hG ht,aq hi hG ht,dz,SV.ae,V1.ae];have:(Instr.indexAt t (l.ae U ph) ((ag.i k e).ae U ph)).run P w' = .ok (l'.ae U ph) w':=by
       unfold LH at hb;split at hb;rename_i len el id off hu;have he:P.elem t=el:=by simp[Program.elem,hu]
       have hlen:P.arrayLen t=len:=by simp[Program.arrayLen,hu]
       split at hb;rename_i n;split at hb;rename_i hc;simp only[af,ao]at hb;obtain⟨rfl,rfl⟩:=hb;simp only[ag.ae,IE.ae];rw[run_indexAt_array w' t _ k n (by rw[he,hlen];exact hu),he,hlen,if_pos ⟨hc.1,hc.2.1⟩];rw[fg hc.2.2.2];simp only[dc,iD];cases hb;rename_i ck;split at hb;rename_i hc;simp only[af,ao]at hb;obtain⟨rfl,rfl⟩:=hb;have h0:=bP (hn _ (aM ..));have h1:=eB (hn _ (aZ _ (aM ..)));simp only[IE.ae]at h0 h1;simp only[ag.ae];rw[run_indexAt_array w' t _ k _ (by rw[he,hlen];exact hu),he,hlen,if_pos ⟨h0,h1⟩];rw[fg hc.2];simp only[dc,iD];cases hb;rename_i len el row sz r j hu;have he:P.elem t=el:=by simp[Program.elem,hu]
       have hlen:P.arrayLen t=len:=by simp[Program.arrayLen,hu]
       split at hb;rename_i rq hrq;split at hb;rename_i hc;obtain⟨rfl,rfl,Q7,hc4,hc5,hc6,hc7⟩:=hc;simp only[af,ao]at hb;obtain⟨rfl,rfl⟩:=hb;obtain⟨a6,rfl⟩:=aT hrq;have h0:=bP (hn _ (aM ..));have h1:=eB (hn _ (aZ _ (aM ..)));have h2:=eB (hn _ (aZ _ (aZ _ (aM ..))));simp only[IE.ae]at h0 h1 h2;obtain⟨ad,cap,iJ,_⟩:=iE (hm.row rq a6 (BE.cj hc7 hG)) h0 h2;simp only[ag.ae,IE.ae,iJ];rw[run_indexAt_array w' t _ k _ (by rw[he,hlen];exact hu),he,hlen,if_pos ⟨h0,h1⟩];rw[fg hc5];simp only[dc,gd,hc4,Int.toNat_zero,Nat.zero_mul,fP,gA];split at hb;rename_i n;split at hb;rename_i rr A4;split at hb;rename_i hc;simp only[af,ao]at hb;obtain⟨rfl,rfl⟩:=hb;simp only[af]at A4;subst A4;obtain⟨a6,rfl⟩:=aT hrq;have h0:=bP (hn _ (aM ..));have h1:=eB (hn _ (aZ _ (aM ..)));simp only[IE.ae]at h0 h1;obtain⟨ad,cap,iJ,_⟩:=iE (hm.row rq a6 (BE.cj hc.2.2.2.2 hG)) h0 h1;simp only[ag.ae,IE.ae,iJ];rw[run_indexAt_array w' t _ k n (by rw[he,hlen];exact hu),he,hlen,if_pos ⟨hc.1,hc.2.1⟩];rw[fg hc.2.2.2.1];simp only[dc,gd,Nat.add_assoc];cases hb;cases hb;cases hb;cases hb
       . rename_i el row hu;have he:P.elem t=el:=by simp[Program.elem,hu]
         split at hb;rename_i r hr;split at hb;rename_i hc;simp only[ah,aD]at hc;simp only[af,ao]at hb;obtain⟨rfl,rfl⟩:=hb;obtain⟨a6,rfl⟩:=aT hr;have h0:=bP (hn _ (aM ..));have h1:=eB (hn _ (aZ _ (aM ..)));simp only[IE.ae]at h0 h1;have aY:=hm.row r a6 (BE.cj hc.1 hG);obtain⟨ad,cap,iJ,_⟩:=iE aY h0 h1;simp only[ag.ae,IE.ae,Ph.val,iJ];rw[run_indexAt_slice w' t ad _ cap k _ (by rw[he];exact hu),he,if_pos ⟨h0,h1⟩];rw[bT (by rw[hc.2];exact aY.1),hc.2];simp only[dc,gA];cases hb;split at hb
         . rename_i r hr;split at hb
           . rename_i hc;simp only[ah,aD]at hc;simp only[af,ao]at hb;obtain⟨rfl,rfl⟩:=hb;obtain⟨a6,rfl⟩:=cH hr;have h0:=bP (hn _ (aM ..));have h1:=eB (hn _ (aZ _ (aM ..)));simp only[IE.ae]at h0 h1;obtain⟨⟨base,cap,iJ,_,jn⟩,ll⟩:=hN r a6 (BE.cj hc.1 hG);cases base with
             |none=>have:=(jn rfl).1;omega
             |some ad=>
             have B4:ph.v r.id=(some ad,(U r.lv).list.length,cap):=by
               simp only[Ph.val,Value.slice.injEq]at iJ;exact Prod.ext iJ.1 (Prod.ext iJ.2.1 iJ.2.2)
             simp only[ag.ae,IE.ae,Ph.val,B4];rw[run_indexAt_slice w' t ad _ cap k _ (by rw[he];exact hu),he,if_pos ⟨h0,h1⟩];rw[bT (by rw[hc.2];exact ll),hc.2];simp only[dc,gA]
           cases hb
         cases hb
       rename_i el row sz lo n hu;split at hb;rename_i r hr;split at hb;rename_i hc;simp only[ah,aD]at hc;simp only[af,ao]at hb;obtain⟨rfl,rfl⟩:=hb;obtain⟨a6,rfl⟩:=aT hr;have h0:=bP (hn _ (aM ..));have h1:=eB (hn _ (aZ _ (aM ..)));have h2:=bP (hn _ (aZ _ (aZ _ (aM ..))));have h3:=bP (hn _ (aZ _ (aZ _ (aZ _ (aM ..)))));simp only[IE.ae]at h0 h1 h2 h3;exact LD (hm.row r a6 (BE.cj hc.1.1 hG)) hu hc.1.2 hc.2 h2 h3 h0 h1;cases hb;cases hb;rename_i el row bs hu;split at hb;rename_i r hr;split at hb;rename_i hc;simp only[ah,aD]at hc;split at hb;rename_i m;split at hb;rename_i rU;simp only[bl,ao]at hb;obtain⟨b,_,rfl,rfl⟩:=hb;obtain⟨a6,rfl⟩:=aT hr;have h1:=eB (hn _ (aM ..));simp only[IE.ae]at h1;exact LF (hm.row r a6 (BE.cj hc.1.1 hG)) hu hc.1.2 hc.2 rU h1;cases hb;cases hb;cases hb;cases hb;rename_i el id n sz hu;split at hb;rename_i hc;simp only[ah,aD]at hc;split at hb;rename_i m;split at hb;rename_i rU;simp only[af,ao]at hb;obtain⟨rfl,rfl⟩:=hb;simp only[ag.ae,IE.ae];rw[nY hu rU.1 rU.2 hc.2,hc.1,iD,fP];cases hb;simp only[af,ao]at hb;obtain⟨rfl,rfl⟩:=hb;have h0:=bP (hn _ (aM ..));have h1:=eB (hn _ (aZ _ (aM ..)));simp only[IE.ae]at h0 h1;simp only[ag.ae];rw[nY hu h0 h1 hc.2,hc.1,iD];cases hb;cases hb
     rw[this];rfl
   cases h
 ·
   rename_i t x i heq;split at h;rename_i cs k n len el hx hi hu;split at h;rename_i hc;simp only[bl,ao]at h;obtain⟨v,hv,rfl,rfl⟩:=h;obtain⟨nW,_⟩:=lW hv;simp only[execOp,heq,cf hx hG ht,aq hi hG ht,V1.ae,ag.ae,IE.ae,Instr.index,asIntOf,dz,eU,dc,run_underlying hu];simp only[hc,and_self,if_true,dz,bT nW.2.1,dc,vf hv,eU,SV.ae];cases h;rename_i cs k xi len el ck hx hi hu;split at h;rename_i hc;simp only[ah,aD,mG]at hc;obtain⟨⟨⟨aaf,hna⟩,mD⟩,hlen⟩:=hc;simp only[bl,ao]at h;obtain⟨l,hl,rfl,rfl⟩:=h;have h0:=bP (hn _ (aM ..));have h1:=eB (hn _ (aZ _ (aM ..)));simp only[IE.ae]at h0 h1;obtain⟨l',tV,he⟩:=vg (U:=U) (ph:=ph) hl h0 h1;rw[Nat.mul_one,fP]at tV;simp only[execOp,heq,cf hx hG ht,aq hi hG ht,V1.ae,ag.ae,IE.ae,Instr.index,asIntOf,dz,eU,dc,run_underlying hu];have hp:qy P el cs (xi.ae U).toNat=some (.one l'):=by
     simp[qy,aaf,mD,hna,tV]
   have:=vf (U:=U) (ph:=ph) (w:=w') hp;simp only[h0,h1,and_self,if_true,dz,bT (show 0<P.cellsOf el by omega),dc,mD,Nat.mul_one,this,eU,SV.ae,V1.ae,he];cases h;rename_i bs k n hx hi hu;split at h;rename_i gY;simp only[bl,ao]at h;obtain⟨b,hb,rfl,rfl⟩:=h;simp only[execOp,heq,cf hx hG ht,aq hi hG ht,V1.ae,ag.ae,IE.ae,Instr.index,asIntOf,dz,eU,dc,run_underlying hu];simp only[gY,if_true,Jc,hb,eU,dc,SV.ae,V1.ae,ag.ae,IE.ae];cases h;cases h
 ·
   rename_i x heq;split at h;rename_i id off hx;simp only[af,ao]at h;obtain⟨rfl,rfl⟩:=h;simp only[execOp,heq,aq hx hG ht,ag.ae,eU,SV.ae,V1.ae];rename_i row sz i j hx;split at h;rename_i r hr;split at h;rename_i hc;simp only[af,ao]at h;obtain⟨rfl,rfl⟩:=h;have h1:=eB (hn _ (aM ..));simp only[IE.ae]at h1;obtain⟨a6,rfl⟩:=aT hr;obtain⟨ad,cap,iJ,_⟩:=iE (hm.row r a6 (BE.cj hc hG)) (i:=0) (Int.le_refl _) h1;simp only[execOp,heq,aq hx hG ht,ag.ae,iJ,eU,SV.ae,V1.ae];cases h;cases h;cases h
 ·
   rename_i g first captured heq
   split at h;rename_i hf;simp only[bl,ao]at h;obtain⟨cS,hc,rfl,rfl⟩:=h;have e:=B7 hG ht hc;have e1:first.map a.eval = #[]:=by apply jv;simp[hf]
   have e2:captured.map a.eval=(cS.map (kR ph)).toArray:=by apply jv;simpa using e
   simp only[execOp,heq,Instr.makeFunc,e1,e2,dz,eU,dc,SV.ae,V1.ae,ag.ae];rename_i x hf;split at h;rename_i Lw;have e1:first.map a.eval = #[a.eval x]:=by apply jv;simp[hf]
   have e2:captured.map a.eval = #[]:=by apply jv;simp[Lw]
   split at h;rename_i l hl;simp only[bl,ao]at h;obtain⟨l0,hd,rfl,rfl⟩:=h;have e3:=cf hl hG ht;rw[ag.down_up hd]at e3;simp only[V1.ae]at e3;rw[cO.BU]at e3;simp only[execOp,heq,Instr.makeFunc,e1,e2,e3,dz,eU,dc,SV.ae,V1.ae,ag.ae];simp;rename_i ls hl;simp only[bl,ao]at h;obtain⟨l0,hd,rfl,rfl⟩:=h;have e3:=cf hl hG ht;simp only[V1.ae,Jd (U:=U) (ph:=ph) hd]at e3;simp only[execOp,heq,Instr.makeFunc,e1,e2,e3,dz,eU,dc,SV.ae,V1.ae,ag.ae];simp;cases h;cases h;cases h
 ·
   rename_i t x low high cap heq;split at h;rename_i el row hu hx;split at h;rename_i r hr;split at h;rename_i hc;simp only[ah,aD]at hc;obtain⟨⟨⟨hg,mD⟩,hre⟩,akh⟩:=hc;obtain⟨a6,rfl⟩:=aT hr;have aY:=hm.row r a6 (BE.cj hg hG);obtain⟨base,cp,hv,⟨_,hlc⟩,jn,_⟩:=aY.reads;have tR:ph.v r.id=(base,(U r.lv).list.length,cp):=by
     simp only[Ph.val,Value.slice.injEq]at hv;exact Prod.ext hv.1 (Prod.ext hv.2.1 hv.2.2)
   have ll:0<P.cellsOf el:=by rw[mD];exact aY.1
   split at h;rename_i l;split at h;rename_i kl lo qf;simp only[af,ao]at h;obtain⟨rfl,rfl⟩:=h;have h0:=bP (hn _ (aM ..));have h1:=bP (hn _ (aZ _ (aM ..)));simp only[IE.ae]at h0 h1;simp only[execOp,heq,aq hx hG ht,sG,Option.map_none,aq qf hG ht,SV.ae,V1.ae,dz];have:=A1 (P:=P) (w:=w') (t:=t) (e:=el) hu (base:=base) (len:=(U r.lv).list.length) (cap:=cp) (lo:=lo.ae U) (hi:=((U r.lv).list.length:Int)) (kl:=kl) none rfl (by simp) h0 h1 (by omega) ll;simp only[ag.ae,Ph.val,tR]at this ⊢;rw[this];simp only[dc,eU,IE.bY,IE.ae,mD];cases h;rename_i l hh;split at h;rename_i kl lo kh hi qf Fx;simp only[af,ao]at h;obtain⟨rfl,rfl⟩:=h;have h0:=bP (hn _ (aM ..));have h1:=bP (hn _ (aZ _ (aM ..)));have h2:=bP (hn _ (aZ _ (aZ _ (aM ..))));simp only[IE.ae]at h0 h1 h2;simp only[execOp,heq,aq hx hG ht,sG,Option.map_none,aq qf hG ht,aq Fx hG ht,SV.ae,V1.ae,dz];have:=A1 (P:=P) (w:=w') (t:=t) (e:=el) hu (base:=base) (len:=(U r.lv).list.length) (cap:=cp) (lo:=lo.ae U) (hi:=hi.ae U) (kl:=kl) (some (.int kh (hi.ae U))) rfl (by intro v hv;simp at hv;exact⟨kh,hv.symm⟩) h0 h1 (by omega) ll;simp only[ag.ae,Ph.val,tR]at this ⊢;rw[this];simp only[dc,eU,IE.bY,IE.ae,mD];cases h;rename_i hh mm;split at h;rename_i kh hi km mx Fx Q8;simp only[af,ao]at h;obtain⟨rfl,rfl⟩:=h;have h0:=hn _ (aM ..);have h1:=hn _ (aZ _ (aM ..));rw[BE.bY]at h0 h1;have h0:hi.ae U=((U r.lv).list.length:Int):=qt h0;have h1:mx.ae U=((U r.lv).list.length:Int):=qt h1;simp only[execOp,heq,aq hx hG ht,sG,Option.map_none,aq Fx hG ht,aq Q8 hG ht,SV.ae,V1.ae,dz];have:=FK (P:=P) (w:=w') (t:=t) (e:=el) hu (base:=base) (len:=(U r.lv).list.length) (cap:=cp) (kh:=kh) (km:=km) hlc ll;simp only[ag.ae,Ph.val,tR,h0,h1]at this ⊢;rw[this];simp only[dc,eU];cases h;cases h;cases h;cases h;rename_i bs hu hx;split at h;rename_i l;split at h;rename_i kl lo qf;split at h;rename_i hc;simp only[af,ao]at h;obtain⟨rfl,rfl⟩:=h;simp only[execOp,heq,aq hx hG ht,sG,Option.map_none,aq qf hG ht,SV.ae,V1.ae,ag.ae,IE.ae,dz];rw[DQ hu hc.1 hc.2];rfl;cases h;cases h;rename_i hh;split at h;rename_i kh hi Fx;split at h;rename_i hc;simp only[af,ao]at h;obtain⟨rfl,rfl⟩:=h;simp only[execOp,heq,aq hx hG ht,sG,Option.map_none,aq Fx hG ht,SV.ae,V1.ae,ag.ae,IE.ae,dz];rw[Je hu hc.1 hc.2];rfl;cases h;cases h;cases h;cases h
 ·
   rename_i t x heq;split at h;rename_i len el hu;split at h;rename_i ll;split at h;rename_i row hx;split at h;rename_i r hr;split at h;rename_i hc;simp only[ah,aD]at hc;simp only[af,ao]at h;obtain⟨rfl,rfl⟩:=h;obtain⟨a6,rfl⟩:=aT hr;have h0:=bP (hn _ (aM ..));simp only[IE.ae]at h0;obtain⟨ad,cp,iJ,_⟩:=iE (hm.row r a6 (BE.cj hc.1 hG)) (i:=0) (Int.le_refl _) (by omega);simp only[execOp,heq,aq hx hG ht,ag.ae,Ph.val,iJ,dz,run_arrayAt w' t el len _ _ _ hu (show len<=(U r.lv).list.length by omega),dc,eU,SV.ae,V1.ae,IE.ae];simp[Addr.add_zero'];cases h;cases h;rename_i row lo n hx;split at h;rename_i r hr;split at h;rename_i hc;simp only[ah,aD]at hc;simp only[af,ao]at h;obtain⟨rfl,rfl⟩:=h;obtain⟨a6,rfl⟩:=aT hr;have h0:=bP (hn _ (aM ..));have h1:=bP (hn _ (aZ _ (aM ..)));have h2:=bP (hn _ (aZ _ (aZ _ (aM ..))));simp only[IE.ae]at h0 h1 h2;obtain⟨ad,cp,iJ,hd⟩:=LC (sz:=1) (hm.row r a6 (BE.cj hc.1 hG)) h1 (by omega) h2;simp only[execOp,heq,aq hx hG ht,hd,dz,run_arrayAt w' t el len _ _ _ hu (show len<=(n.ae U).toNat by omega),dc,eU,SV.ae,V1.ae];simp only[ag.ae,iJ,gA];cases h;cases h;cases h;cases h;cases h
 ·
   rename_i x n heq;split at h;rename_i xs hx;simp only[bl,ao]at h;obtain⟨v,hv,rfl,rfl⟩:=h;simp only[execOp,heq,qx hx hG ht,SV.ae,Instr.extract,List.getElem?_toArray,gJ,hv,sG,dz,eU,dc];cases h
 ·
   rename_i t parts heq;split at h;rename_i z place ps hz hp DF;simp only[bl,ao]at h;obtain⟨cs,ix,rfl,rfl⟩:=h;have e:=nB hG ht DF;have:=run_build (U:=U) (ph:=ph) (w:=w') (parts:=parts.map fun(i,x)=>(i,a.eval x)) hz hp ix (by rw[Array.toList_map];exact e);simp only[execOp,heq,dz,this,dc,eU,SV.ae,V1.ae];cases h
 ·
   rename_i args LG heq;split at h;rename_i x el ew Jb;have Vn:∃t,LG[0]?=some t/\P.underlying t=some (.slice el):=by
     simp only[Option.bind_eq_some_iff]at Jb;exact Jb
   obtain⟨t,ht0,htu⟩:=Vn;have he:P.elem t=el:=by simp[Program.elem,htu]
   have cd:∀b n c,(Builtin.len_ LG o.type #[.slice b n c]).run P w' = .ok (goInt n) w':=fun b n c=>by
     simp[Builtin.len_,ht0,run_underlying htu]
   split at h;rename_i row aY;split at h;rename_i r hr;split at h;rename_i hg;simp only[af,ao]at h;obtain⟨rfl,rfl⟩:=h;obtain⟨a6,rfl⟩:=aT hr;obtain⟨base,cap,hv,_⟩:=(hm.row r a6 (BE.cj hg hG)).reads;refine dp heq (fun _ _ _ _=>rfl) ?_;simp only[oW ew,aq aY hG ht,ag.ae,hv,cd];rfl;cases h;split at h;rename_i r hr;split at h;rename_i hg;simp only[af,ao]at h;obtain⟨rfl,rfl⟩:=h;obtain⟨a6,rfl⟩:=cH hr;obtain⟨⟨base,cap,hv,_⟩,_⟩:=hN r a6 (BE.cj hg hG);refine dp heq (fun _ _ _ _=>rfl) ?_;simp only[oW ew,aq aY hG ht,ag.ae,hv,cd];rfl;cases h;cases h;rename_i tg;simp only[af,ao]at h;obtain⟨rfl,rfl⟩:=h;refine dp heq (fun _ _ _ _=>rfl) ?_;simp only[oW ew,aq tg hG ht,ag.ae,cd];rfl;rename_i row szz lo n aY;split at h;split at h;simp only[af,ao]at h;obtain⟨rfl,rfl⟩:=h;have h0:=bP (hn _ (aM ..));simp only[IE.ae]at h0;refine dp heq (fun _ _ _ _=>rfl) ?_;simp only[oW ew,aq aY hG ht,ag.ae,cd,SV.ae,V1.ae,goInt];rw[Int.toNat_of_nonneg h0];cases h;cases h;rename_i id n szz aY;simp only[af,ao]at h;obtain⟨rfl,rfl⟩:=h;refine dp heq (fun _ _ _ _=>rfl) ?_;simp only[oW ew,aq aY hG ht,ag.ae,cd];rfl;rename_i row bs aY;split at h;rename_i r hr;split at h;rename_i hg;simp only[af,ao]at h;obtain⟨rfl,rfl⟩:=h;have h0:=hn _ (aM ..);rw[BE.bY]at h0;have h0:((U r.lv).list.length:Int)=(bs.length:Int):=qt h0;obtain⟨a6,rfl⟩:=aT hr;obtain⟨base,cap,hv,_⟩:=(hm.row r a6 (BE.cj hg hG)).reads;refine dp heq (fun _ _ _ _=>rfl) ?_;simp only[oW ew,aq aY hG ht,ag.ae,hv,cd,SV.ae,V1.ae,IE.ae,goInt,h0];cases h;cases h;cases h;rename_i x ew Jb;have Vn:∃t,LG[0]?=some t/\P.underlying t=some .string:=by
     simp only[Option.bind_eq_some_iff]at Jb;exact Jb
   obtain⟨t,ht0,htu⟩:=Vn;split at h;rename_i bs hx;simp only[af,ao]at h;obtain⟨rfl,rfl⟩:=h;refine dp heq (fun _ _ _ _=>rfl) ?_;simp[oW ew,aq hx hG ht,ag.ae,Builtin.len_,ht0,run_underlying htu,td,SV.ae,V1.ae,IE.ae,goInt];cases h;cases h
 ·
   rename_i args LG heq;split at h;rename_i x y ew;split at h;rename_i k e1 k' e2 hx hy;split at h;rename_i hk;subst hk;simp only[af,ao]at h;obtain⟨rfl,rfl⟩:=h;refine dp heq (fun _ _ _ _=>rfl) ?_;simp only[HF ew,aq hx hG ht,aq hy hG ht,ag.ae,run_max_int2,Vk];simp[SV.ae,V1.ae,ag.ae,IE.bY,IE.ae];cases h;cases h;rename_i x y z ew;split at h;rename_i k e1 k' e2 k'' e3 hx hy hz;split at h;rename_i hk;obtain⟨rfl,rfl⟩:=hk;simp only[af,ao]at h;obtain⟨rfl,rfl⟩:=h;refine dp heq (fun _ _ _ _=>rfl) ?_;simp only[A3 ew,aq hx hG ht,aq hy hG ht,aq hz hG ht,ag.ae];simp[Builtin.max_,Builtin.max2,List.foldlM,SV.ae,V1.ae,ag.ae,IE.bY,IE.ae];omega;cases h;cases h;cases h
 ·
   rename_i args LG heq;split at h;rename_i x y ew;split at h;rename_i k e1 k' e2 hx hy;split at h;rename_i hk;subst hk;simp only[af,ao]at h;obtain⟨rfl,rfl⟩:=h;refine dp heq (fun _ _ _ _=>rfl) ?_;simp only[HF ew,aq hx hG ht,aq hy hG ht,ag.ae,run_min_int2,Vl];simp[SV.ae,V1.ae,ag.ae,IE.bY,IE.ae];cases h;cases h;rename_i x y z ew;split at h;rename_i k e1 k' e2 k'' e3 hx hy hz;split at h;rename_i hk;obtain⟨rfl,rfl⟩:=hk;simp only[af,ao]at h;obtain⟨rfl,rfl⟩:=h;refine dp heq (fun _ _ _ _=>rfl) ?_;simp only[A3 ew,aq hx hG ht,aq hy hG ht,aq hz hG ht,ag.ae];simp[Builtin.min_,Builtin.min2,List.foldlM,SV.ae,V1.ae,ag.ae,IE.bY,IE.ae];omega;cases h;cases h;cases h
 cases h
end
end Go.Sx
