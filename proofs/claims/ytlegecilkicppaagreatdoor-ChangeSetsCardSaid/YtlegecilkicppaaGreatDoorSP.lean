import Derived.Test.YtlegecilkicppaaGreatDoorW1
set_option maxRecDepth 100000
set_option linter.all false
namespace Go.Cb.CodeA
open Go Go.Cb Go.Cb.G
def k0:AV:=(.ptr 2 0)
def k1:AV:=(.int .u8 0)
def k2:AV:=(.int .i64 0)
def k3:AV:=(.str [])
def k4:AV:=(.list false [])
def k5:AV:=(.bool true)
def k6:AV:=(.int .u8 1)
def k9:AV:=(.int .u8 6)
def k10:AV:=(.list true [])
def k11:AV:=(.str [73,110,116])
def k12:AV:=(.bool false)
def k13:AV:=(.agg [k11,k4,k12])
def k14:AV:=(.box [k11,k4,k12])
def k15:AV:=(.str [110])
def k16:AV:=(.str [115])
def k17:AV:=(.str [83,116,114,105,110,103])
def k18:AV:=(.list false [[k15,k11,k4,k12,k12,k1,k2,k3,k4,k4],[k16,k17,k4,k12,k12,k1,k2,k3,k4,k4]])
def k19:AV:=(.list false [[k15],[k16]])
def k20:AV:=(.int .u8 2)
def k24:AV:=(.int .i64 2)
def k26:AV:=(.int .i64 1)
def k28:AV:=(.str [99,114,101,97,116,101,80,101,114,115,111,110])
def k29:AV:=(.str [105,100])
def k30:AV:=(.str [122,122])
def k31:AV:=(.str [105,110,112,117,116])
def k32:AV:=(.str [110,97,109,101])
def k33:AV:=(.str [97,103,101])
def k34:AV:=(.list false [[k32],[k33]])
def k35:AV:=(.list false [[(.int .u8 7),k2,k16,k4,k4],[(.int .u8 7),k2,k15,k4,k4]])
def k36:AV:=(.list false [[k29,k20,k2,k30,k4,k4],[k31,k9,k2,k3,k34,k35]])
def k37:AV:=(.str [109,111,111,100])
def k38:AV:=(.list false [[k6,k3,k32,k3,k4,k4,k4],[k6,k3,k33,k3,k4,k4,k4],[k6,k3,k37,k3,k4,k4,k4]])
def k39:AV:=(.sl 41 0 1 4)
def k40:AV:=(.str [77,117,116,97,116,105,111,110])
def k41:AV:=(.ptr 85 0)
def k42:AV:=(.tuple [])
def k43:AV:=(.list false [[k6,k3,k28,k3,k36,k4,k38]])
def k44:AV:=(.agg [k39,.nils])
def k45:AV:=(.box [k39,.nils])
def k46:AV:=(.list true [[k29],[k31]])
def k50:AV:=(.str [80,101,114,115,111,110])
def k51:AV:=(.list false [[k33],[k32]])
def k53:AV:=(.list true [[k32]])
def k57:AV:=(.list false [[k29,k4,(.str [73,68]),k4,k5,k12,k1,k2,k3,k4,k4],[k31,k4,(.str [80,101,114,115,111,110,73,110]),k4,k5,k12,k1,k2,k3,k4,k4]])
def k58:AV:=(.list false [[k29],[k31]])
def k60:AV:=(.ptr 83 0)
def k61:AV:=(.str [99,114,101,97,116,101])
def k62:AV:=(.str [77,111,111,100])
def k63:AV:=(.str [116,97,103,115])
def k64:AV:=(.list false [[k17,k4,k12]])
def k65:AV:=(.ptr 107 0)
def k66:AV:=(.sl 112 0 1 7)
def k67:AV:=(.sl 117 0 1 7)
def k68:AV:=(.sl 121 0 3 2)
def k69:AV:=(.int .i64 3)
def k70:AV:=(.ptr 108 0)
def k71:AV:=(.ptr 113 0)
def k72:AV:=(.ptr 118 0)
def k73:AV:=(.ptr 104 0)
def k74:AV:=(.agg [k33,k67])
def k75:AV:=(.box [k33,k67])
def k76:AV:=(.list false [[k28]])
def k77:AV:=(.int .i64 4)
def k78:AV:=(.list false [[k32],[k33],[k37]])
def k82:AV:=(.box [.nils])
def k83:AV:=(.ptr 84 0)
def k86:AV:=(.ptr 81 0)
def k87:AV:=(.sl 40 0 1 4)
def k88:AV:=(.agg [k87,.nils])
def k89:AV:=(.box [k87,.nils])
def k90:AV:=(.sl 101 0 1 4)
def k91:AV:=(.ptr 105 0)
def k92:AV:=(.sl 110 0 1 7)
def k93:AV:=(.sl 115 0 1 7)
def k94:AV:=(.sl 119 0 3 2)
def k95:AV:=(.ptr 102 0)
def k96:AV:=(.agg [k33,k93])
def k97:AV:=(.box [k33,k93])
def k98:AV:=(.agg [k90,k5,k4])
def k99:AV:=(.agg [.nils])
def b92:AV:=(.box [k90])
def c9G:AV:=(.list false [[k16,k17,k4,k12,k12,k1,k2,k3,k4,k4],[k15,k11,k4,k12,k12,k1,k2,k3,k4,k4]])
def L4:AV:=(.list false [[k16],[k15]])
def J0:AV:=(.str [117,112,100,97,116,101,80,101,114,115,111,110])
def d0j:AV:=(.list false [[k33],[k37],[k63],[k32]])
def a0m:AV:=(.int .u8 4)
def a0d:AV:=(.str [83,65,68])
def a2j:AV:=(.int .u8 5)
def c6E:AV:=(.list false [[k1,k2,k3,k4,k4],[a0m,k2,a0d,k4,k4],[a2j,k2,k3,k4,(.list false [[(.int .u8 7),k2,k16,k4,k4]])],[(.int .u8 7),k2,k16,k4,k4]])
def b3k:AV:=(.list false [[k29,k20,k2,k30,k4,k4],[k31,k9,k2,k3,d0j,c6E]])
def b0n:AV:=(.list false [[k6,k3,k33,k3,k4,k4,k4],[k6,k3,k37,k3,k4,k4,k4],[k6,k3,k63,k3,k4,k4,k4]])
def L6:AV:=(.sl 43 0 1 4)
def a3m:AV:=(.ptr 133 0)
def a7i:AV:=(.sl 138 0 1 7)
def Y0:AV:=(.str [120])
def a3k:AV:=(.list false [[k33]])
def c5w:AV:=(.list false [[(.int .u8 7),k2,k15,k4,k4]])
def b3t:AV:=(.list false [[k29,k20,k2,k30,k4,k4],[k31,k9,k2,k3,a3k,c5w]])
def b0G:AV:=(.list false [[k6,k3,k33,k3,k4,k4,k4]])
def d1d:AV:=(.list false [[k6,k3,J0,k3,b3k,k4,b0n],[k6,Y0,J0,k3,b3t,k4,b0G]])
def a5w:AV:=(.agg [L6,.nils])
def a8M:AV:=(.box [L6,.nils])
def b3A:AV:=(.list false [[k32],[k33],[k37],[k63]])
def c7L:AV:=(.list false [[k37],[k32],[k63]])
def a2W:AV:=(.ptr 131 0)
def a8t:AV:=(.str [117,112,100,97,116,101])
def a7e:AV:=(.int .i64 5)
def a0R:AV:=(.ptr 165 0)
def a7o:AV:=(.sl 170 0 1 7)
def b0z:AV:=(.sl 179 0 3 2)
def a6Q:AV:=(.ptr 162 0)
def a8r:AV:=(.list false [[k33],[k37],[k63]])
def a9o:AV:=(.int .i64 6)
def d1X:AV:=(.list false [[k33],[k37],[k32],[k63]])
def a1k:AV:=(.ptr 197 0)
def a9O:AV:=(.sl 201 0 1 2)
def b0K:AV:=(.int .i64 7)
def a0r:AV:=(.ptr 194 0)
def a8q:AV:=(.agg [k33,(.sl 202 0 1 7)])
def b0H:AV:=(.list false [[Y0],[k33]])
def b2K:AV:=(.box [k33,(.sl 202 0 1 7)])
def a9e:AV:=(.list false [[Y0]])
def a5s:AV:=(.agg [Y0,(.sl 143 0 1 7)])
def a9H:AV:=(.box [Y0,(.sl 143 0 1 7)])
def b9P:AV:=(.list false [[J0],[Y0]])
def Z1:AV:=(.str [100,101,108,101,116,101,80,101,114,115,111,110])
def b3o:AV:=(.list false [[k29,k20,k2,k30,k4,k4]])
def a9X:AV:=(.list false [[k6,k3,k37,k3,k4,k4,k4]])
def a0S:AV:=(.sl 212 0 1 4)
def a6L:AV:=(.ptr 232 0)
def c8I:AV:=(.list false [[k6,k3,Z1,k3,b3o,k4,a9X]])
def a6C:AV:=(.agg [a0S,.nils])
def b4h:AV:=(.box [a0S,.nils])
def c7o:AV:=(.list false [[k29,k4,(.str [73,68]),k4,k5,k12,k1,k2,k3,k4,k4]])
def c6W:AV:=(.list false [[k20,k2,k30,k4,k4]])
def b2x:AV:=(.str [100,101,108,101,116,101])
def a6H:AV:=(.ptr 244 0)
def b0h:AV:=(.sl 248 0 1 2)
def b30:AV:=(.list false [[Z1]])
def a7f:AV:=(.ptr 241 0)
def b3Z:AV:=(.list false [[k37]])
def b4f:AV:=(.list false [[a0m,k2,a0d,k4,k4]])
def b8H:AV:=(.agg [k9,k2,k3,b3Z,b4f])
def b7D:AV:=(.list false [[k9,k2,k3,b3Z,b4f]])
section
variable [v:Lt]
def k7:AV:=(.int .i64 v.m)
def k8:AV:=(.agg [k6,k7,k3,k4,k4])
def k21:AV:=(.str v.X)
def k22:AV:=(.list false [[k6,k7,k3,k4,k4],[k20,k2,k21,k4,k4]])
def k23:AV:=(.agg [k9,k2,k3,k19,k22])
def k25:AV:=(.list true [[k6,k7,k3,k4,k4]])
def k27:AV:=(.list true [[k6,k7,k3,k4,k4],[k20,k2,k21,k4,k4]])
def k47:AV:=(.list false [[k20,k2,k21,k4,k4],[k6,k7,k3,k4,k4]])
def k48:AV:=(.list true [[k20,k2,k21,k4,k4],[k6,k7,k3,k4,k4]])
def k49:AV:=(.agg [(.sl 31 0 v.n 4)])
def k52:AV:=(.agg [k50,k30,k51,k22])
def k54:AV:=(.list true [[k20,k2,k21,k4,k4]])
def k55:AV:=(.sl 103 0 (.succ v.n) 4)
def k56:AV:=(.agg [k55])
def k59:AV:=(.list false [[k20,k2,k30,k4,k4],[k9,k2,k3,k34,k47]])
def k79:AV:=(.list false [[k20,k2,k21,k4,k4],[k6,k7,k3,k4,k4],[k1,k2,k3,k4,k4]])
def k80:AV:=(.agg [k9,k2,k3,k78,k79])
def k81:AV:=(.agg [k55,k5,k4])
def k84:AV:=(.list false [[k9,k2,k3,k78,k79]])
def k85:AV:=(.agg [k2,k9,k2,k3,k76,k84,k4])
def c7H:AV:=(.agg [k9,k2,k3,L4,k47])
def a8y:AV:=(.sl 31 0 (.succ v.n) 4)
def a2M:AV:=(.list false [[k20,k2,k21,k4,k4]])
def b8p:AV:=(.list false [[k20,k2,k21,k4,k4],[k1,k2,k3,k4,k4],[a0m,k2,a0d,k4,k4],[a2j,k2,k3,k4,a2M]])
def a7t:AV:=(.agg [a8y])
def c7h:AV:=(.list false [[a0m,k2,a0d,k4,k4],[k20,k2,k21,k4,k4],[a2j,k2,k3,k4,a2M]])
def c55:AV:=(.agg [k50,k30,c7L,c7h])
def a2N:AV:=(.sl 161 0 (.succ v.n) 4)
def b4L:AV:=(.agg [a2N])
def d1z:AV:=(.list false [[k20,k2,k30,k4,k4],[k9,k2,k3,b3A,b8p]])
def b0i:AV:=(.list false [[k1,k2,k3,k4,k4],[a0m,k2,a0d,k4,k4],[a2j,k2,k3,k4,a2M]])
def b8n:AV:=(.agg [k9,k2,k3,a8r,b0i])
def d0l:AV:=(.agg [a2N,k5,k4])
def a6Z:AV:=(.list false [[k6,k7,k3,k4,k4]])
def c8K:AV:=(.list false [[k6,k7,k3,k4,k4],[a0m,k2,a0d,k4,k4],[k20,k2,k21,k4,k4],[a2j,k2,k3,k4,a2M]])
def c7D:AV:=(.agg [k50,k30,d1X,c8K])
def W7:AV:=(.sl 193 0 (.succ v.n) 4)
def a2b:AV:=(.agg [W7])
def c6i:AV:=(.list false [[k20,k2,k30,k4,k4],[k9,k2,k3,a3k,a6Z]])
def b7p:AV:=(.agg [k9,k2,k3,a3k,a6Z])
def b2r:AV:=(.agg [W7,k5,k4])
def d0N:AV:=(.box [W7,k5,k4])
def b8i:AV:=(.list false [[k9,k2,k3,a8r,b0i],[k9,k2,k3,a3k,a6Z]])
def b4n:AV:=(.box [W7])
def p0:AV:=(.agg [k0,k1,k2,k3,k4,k4,k5])
def p1:AV:=k8
def p2:Obj:=.cells [k9,k2,k3,k10,k10]
def p3:St:=((a7k v.C)++[.cells [k3],p2])
def p4:AV:=(.tuple [k8,k5,k2])
abbrev Q0:Prop:=Ev e7 223 [p0,k11,p1] p3 p4 p3
def p5:List AV:=[p0,k13,p1]
def p6:AV:=(.box [k0,k1,k2,k3,k4,k4,k5])
def p7:AV:=(.box [k6,k7,k3,k4,k4])
def p8:AV:=(.box [k1,k2,k3,k10,k10])
def p9:List AV:=[p0,k13,p1,p6,k14,p7,p8,k12,k2,.undef,.undef]
def p10:List AV:=[k0,k13,p1]
def p11:List AV:=[k0,k13,p1,k14,p7,p8,k2,p6,.undef,.undef]
def p12:AV:=(.tuple [k8,k2])
def p13:AV:=k18
def p14:AV:=k23
def p15:St:=((a7k v.C)++[.cells [k3]])
def p16:AV:=(.box [k9,k2,k3,k19,k22])
def p17:List AV:=[k0,p13,p14,p16,p8,k3,k2,(.ptr 82 0),.undef,.undef,.undef,.undef,.undef,.undef,.undef]
def p18:List AV:=(((p17.set 12 p13).set 13 k24).set 14 k2)
def p19:AV:=(.box [k15,k11,k4,k12,k12,k1,k2,k3,k4,k4])
def p20:List AV:=[k0,p13,p14,p16,p8,k3,k2,(.ptr 82 0),p19,p7,k5,k2,p13,k24,k2]
def p21:Obj:=.cells [k9,k2,k3,(.list true [[k15]]),k25]
def p22:St:=(p15++[p21])
def p23:AV:=(.box [k16,k17,k4,k12,k12,k1,k2,k3,k4,k4])
def p24:AV:=(.box [k20,k2,k21,k4,k4])
def p25:List AV:=((((p20.set 14 k26).set 8 p23).set 9 p24).set 14 k24)
def p26:Obj:=.cells [k9,k2,k3,(.list true [[k15],[k16]]),k27]
def p27:St:=(p15++[p26])
def p28:AV:=(.tuple [k23,k3,k2])
def p29:AV:=(.agg [k6,k3,k28,k3,k36,k4,k38])
def p30:Obj:=.cells [k0,k39,.nils,(.sl 31 0 v.n 4),k9,k2,k3,k19,k22,.nils,k2]
def p31:Obj:=.cells [k0,k39,.nils,k40,k9,k2,k3,k19,k22,k10,k10]
def p32:Obj:=.cells [k6,k3,k28,k3,k36,k4,k38]
def p33:St:=(p27++[p30,p2,p31,p32,.cells [k41]])
def p34:AV:=(.box [k6,k3,k28,k3,k36,k4,k38])
def p35:List AV:=[k41,p29,p34,(.ptr 88 0),k2,.undef,.undef,.undef]
def p36:Obj:=.cells [k0,k39,.nils,k40,k9,k2,k3,k19,k22,k10,(.sl 89 0 1 2)]
def p37:Obj:=.cells [k28]
def p38:Obj:=.cells [k28,k10]
def p39:St:=((p33.set 85 p36)++[p37,p38])
def p40:List AV:=(((p35.set 5 p29).set 6 k2).set 7 (.sl 90 0 1 7))
def p41:Obj:=.cells [k28,(.sl 90 0 1 7)]
def p42:St:=((p39.set 89 p41)++[p32])
def p43:AV:=k43
def p44:St:=(p27++[p30,p2,p31])
def p45:List AV:=[k41,p43,.undef,.undef,p43,k26,k2,.undef]
def p46:List AV:=(((p45.set 2 (.ptr 86 0)).set 7 k6).set 6 k26)
def p47:List AV:=[k0,k44,k40,p43,p14]
def p48:St:=(p27++[p30,p2])
def p49:List AV:=[k0,k44,k40,p43,p14,k45,p16,k10,k41]
def p50:Obj:=.cells [k0,k39,.nils,(.sl 31 0 v.n 4),k9,k2,k3,k19,k22,.nils,k26]
def p51:Obj:=.cells [k9,k2,k3,k46,(.list true [[k20,k2,k30,k4,k4],[k9,k2,k3,k34,k35]])]
def p52:Obj:=.cells [k9,k2,k3,k46,(.list true [[k20,k2,k30,k4,k4],[k9,k2,k3,k34,k47]])]
def p53:Obj:=.cells [k9,k2,k3,(.list true [[k32],[k33]]),k48]
def p54:St:=((p42.set 83 p50)++[p51,.cells [k29],.cells [k31],p52,.cells [k32],.cells [k33],p53])
def p55:AV:=(.tuple [(.agg [k3,k3,k4,k4]),k12])
abbrev Q7:Prop:=Ev e7 177 [k49,k30] p54 p55 p54
def p56:AV:=k52
def p57:Obj:=.cells [k50,k30,k53,k54]
def p58:Obj:=.cells [k50,k30,(.list true [[k33],[k32]]),k27]
def p59:St:=(p54++[.cells [k32],p57,.cells [k33],p58])
def p60:St:=(p59++[.dead,.cells v.C2])
abbrev Q8:Prop:=Ev e7 17 [k49,p56] p59 k56 p60
def p61:AV:=(.agg [k28,k57,k50,k4,k12,k12,k1,k2,k3,k4,k4])
def p62:AV:=(.agg [k9,k2,k3,k58,k59])
def p63:AV:=(.box [k28,k57,k50,k4,k12,k12,k1,k2,k3,k4,k4])
def p64:AV:=(.box [k9,k2,k3,k58,k59])
def p65:List AV:=[k60,p61,k30,p62,p63,p64,k2,k61,k50,.undef,.undef,.undef,.undef,.undef,.undef,.undef,.undef,.undef,.undef]
def p66:List AV:=((p65.set 9 (.box [k3,k3,k4,k4])).set 10 k12)
def p67:AV:=(.box [k50,k30,k10,k10])
def p68:AV:=(.box [k50,k30,k51,k22])
def p69:AV:=(.box [k6,k50,(.list false [[k32,k4,k17,k4,k5,k12,k1,k2,k3,k4,k4],[k33,k4,k11,k4,k12,k12,k1,k2,k3,k4,k4],[k37,k4,k62,k4,k12,k12,k1,k2,k3,k4,k4],[(.str [102,114,105,101,110,100,115]),k4,k3,(.list false [[k50,k4,k5]]),k12,k12,k1,k2,k3,k4,k4],[(.str [112,101,116]),k4,(.str [80,101,116]),k4,k12,k12,k1,k2,k3,k4,k4],[k63,k4,k3,k64,k12,k12,k1,k2,k3,k4,k4]]),(.list false [[(.str [78,97,109,101,100])]])])
def p70:AV:=(.box [k9,k2,k3,k34,k47])
def p71:List AV:=[k60,p61,k30,p62,p63,p64,k2,k61,k50,p68,k12,p69,p70,k26,(.ptr 100 0),k26,k34,k24,k24]
def p72:Obj:=.cells [k0,k39,.nils,k55,k9,k2,k3,k19,k22,.nils,k26]
def p73:Obj:=.cells [k0,k39,.nils,k55,k5,k4,k9,k2,k3,k19,k22,.nils,k12,k26]
def p74:St:=((p60.set 83 p72)++[p73,.cells [k55,k5,k4]])
def p75:AV:=(.tuple [k52,k5])
abbrev Q10:Prop:=Ev e7 177 [k56,k30] p74 p75 p74
def p76:AV:=(.agg [k6,k3,k32,k3,k4,k4,k4])
def p77:Obj:=.cells [k0,k39,.nils,k50,k9,k2,k3,k19,k22,k10,k10]
def p78:Obj:=.cells [k6,k3,k32,k3,k4,k4,k4]
def p79:St:=(p74++[p2,p77,p78,.cells [k65]])
def p80:AV:=(.box [k6,k3,k32,k3,k4,k4,k4])
def p81:List AV:=[k65,p76,p80,(.ptr 110 0),k2,.undef,.undef,.undef]
def p82:Obj:=.cells [k0,k39,.nils,k50,k9,k2,k3,k19,k22,k10,(.sl 111 0 1 2)]
def p83:St:=((p79.set 107 p82)++[.cells [k32],.cells [k32,k10]])
def p84:List AV:=(((p81.set 5 p76).set 6 k2).set 7 k66)
def p85:St:=((p83.set 111 (.cells [k32,k66]))++[p78])
def p86:AV:=(.agg [k6,k3,k33,k3,k4,k4,k4])
def p87:Obj:=.cells [k6,k3,k33,k3,k4,k4,k4]
def p88:St:=(p85++[p87,.cells [k65]])
def p89:AV:=(.box [k6,k3,k33,k3,k4,k4,k4])
def p90:List AV:=[k65,p86,p89,(.ptr 115 0),k26,.undef,.undef,.undef]
def p91:Obj:=.cells [k0,k39,.nils,k50,k9,k2,k3,k19,k22,k10,(.sl 116 0 2 2)]
def p92:Obj:=.cells [k32,k66,k33,k10]
def p93:St:=(((p88.set 107 p91).set 111 (.dead))++[.cells [k33],p92])
def p94:List AV:=(((p90.set 5 p86).set 6 k2).set 7 k67)
def p95:Obj:=.cells [k32,k66,k33,k67]
def p96:St:=((p93.set 116 p95)++[p87])
def p97:AV:=(.agg [k6,k3,k37,k3,k4,k4,k4])
def p98:Obj:=.cells [k6,k3,k37,k3,k4,k4,k4]
def p99:St:=(p96++[p98,.cells [k65]])
def d7z:AV:=(.box [k6,k3,k37,k3,k4,k4,k4])
def p101:List AV:=[k65,p97,d7z,(.ptr 120 0),k24,.undef,.undef,.undef]
def d6g:Obj:=.cells [k0,k39,.nils,k50,k9,k2,k3,k19,k22,k10,k68]
def d7D:Obj:=.cells [k32,k66,k33,k67,k37,k10]
def p104:St:=(((p99.set 107 d6g).set 116 (.dead))++[.cells [k37],d7D])
def d7j:List AV:=(((p101.set 5 p97).set 6 k2).set 7 (.sl 122 0 1 7))
def e0T:Obj:=.cells [k32,k66,k33,k67,k37,(.sl 122 0 1 7)]
def p107:St:=((p104.set 121 e0T)++[p98])
def a0a:AV:=k38
def b3x:St:=(p74++[p2,p77])
def p110:List AV:=[k65,a0a,.undef,.undef,a0a,k69,k2,.undef]
def p111:List AV:=(((p110.set 2 k70).set 7 k6).set 6 k26)
def p112:List AV:=(((p111.set 2 k71).set 6 k24).set 2 k72)
def p113:List AV:=((p47.set 2 k50).set 3 a0a)
def d0Y:St:=(p74++[p2])
def p115:List AV:=(((p49.set 2 k50).set 3 a0a).set 8 k65)
def d7v:Obj:=.cells [k0,k39,.nils,k55,k5,k4,k9,k2,k3,k19,k22,.nils,k12,k69]
def c8D:Obj:=.cells [k9,k2,k3,k53,k54]
def b70:Obj:=.cells [k17,k4,k12]
def p119:St:=(((p107.set 104 d7v).set 106 c8D)++[.cells [k0],b70])
def p120:List AV:=[k0,k13,p1,(.ptr 125 0),(.ptr 126 0),p7,k12,.undef,.undef,.undef]
def p121:St:=(p119++[.cells [k0],.cells [k11,k4,k12]])
def p122:List AV:=[k73,k11,p1,p7,k12]
def a8Q:AV:=(.list false [[k28],[k33]])
def p124:List AV:=((((p122.set 4 k5).set 1 k13).set 3 k74).set 4 a8Q)
def p125:List AV:=[k73,k13,p1,k74,a8Q,k14,p7,k75,p8,.undef,.undef,.undef,.undef,.undef,.undef,.undef,.undef,.undef,.undef,.undef]
def p126:List AV:=[k73,k13,p1,k74,a8Q,k14,p7,k75,p8,k12,k2,.undef]
def d9r:List AV:=(((p126.set 11 p7).set 8 p7).set 9 k5)
def a6J:AV:=(.tuple [k8,k5])
def b3V:AV:=(.agg [k33,k4,k11,k4,k12,k12,k1,k2,k3,k4,k4])
def p130:List AV:=[k73,k50,p56,b3V,k74,a8Q]
def b0m:AV:=(.box [k33,k4,k11,k4,k12,k12,k1,k2,k3,k4,k4])
def p132:List AV:=[k73,k50,p56,b3V,k74,a8Q,p68,b0m,k75,p8,k12,.undef,.undef,.undef,.undef,.undef,.undef,.undef,.undef,.undef,.undef]
def c9U:List AV:=(((p132.set 11 p7).set 9 p7).set 10 k5)
def a3Z:AV:=k76
def p135:List AV:=[k73,k50,p56,a0a,a3Z]
def p136:List AV:=[k73,k50,p56,a0a,a3Z,p68,p8,k12,(.ptr 106 0),.undef,.undef,.undef,.undef,.undef,.undef,.undef,.undef,.undef]
def e07:List AV:=(((p136.set 15 k68).set 16 k69).set 17 k2)
def d1u:AV:=(.box [k32,k4,k17,k4,k5,k12,k1,k2,k3,k4,k4])
def c59:AV:=(.list true [[k28],[k32]])
def p140:List AV:=[k73,k50,p56,a0a,a3Z,p68,p8,k12,(.ptr 106 0),(.box [k32,k66]),d1u,k5,c59,p24,k5,k68,k69,k26]
def c9x:Obj:=.cells [k0,k39,.nils,k55,k5,k4,k9,k2,k3,k19,k22,.nils,k12,k24]
def c5o:AV:=(.list true [[k28],[k33]])
def p143:List AV:=(((p140.set 9 k75).set 10 b0m).set 12 c5o)
def b7C:AV:=(.box [k37,k4,k62,k4,k12,k12,k1,k2,k3,k4,k4])
def c9o:AV:=(.list true [[k28],[k37]])
def c7S:AV:=(.box [k1,k2,k3,k4,k4])
def p147:List AV:=[k73,k50,p56,a0a,a3Z,p68,p8,k12,(.ptr 106 0),(.box [k37,(.sl 122 0 1 7)]),b7C,k5,c9o,c7S,k5,k68,k69,k69]
def d6d:Obj:=.cells [k0,k39,.nils,k55,k5,k4,k9,k2,k3,k19,k22,.nils,k12,k77]
def d1c:Obj:=.cells [k9,k2,k3,(.list true [[k32],[k33],[k37]]),(.list true [[k20,k2,k21,k4,k4],[k6,k7,k3,k4,k4],[k1,k2,k3,k4,k4]])]
def p150:St:=(((p121.set 106 p53).set 104 d6d).set 106 d1c)
def B7:AV:=(.box [k9,k2,k3,k78,k79])
def b4N:AV:=(.tuple [k80,k5])
def H0:AV:=(.agg [k50,k4,k12])
def U6:AV:=(.agg [(.int .u8 8),k2,k30,k4,k4])
def a3r:AV:=(.agg [k28,(.sl 90 0 1 7)])
def b40:St:=((p60.set 83 p72)++[p73])
def a0e:AV:=(.box [k50,k4,k12])
def a3T:AV:=(.box [(.int .u8 8),k2,k30,k4,k4])
def a8K:AV:=(.box [k28,(.sl 90 0 1 7)])
def p160:List AV:=[k73,H0,U6,a3r,a3Z,a0e,a3T,a8K,p8,.undef,.undef,.undef,.undef,.undef,.undef,.undef,.undef,.undef,.undef,.undef]
def p161:List AV:=(((p160.set 14 p68).set 15 k5).set 16 B7)
def b25:AV:=k80
def p163:List AV:=[k73,H0,U6,a3r,a3Z,a0e,a3T,a8K,p8,k12,k2,.undef]
def d83:List AV:=(((p163.set 11 B7).set 8 B7).set 9 k5)
def p165:List AV:=[k0,k81,k44,p14,H0,a3r,k30,k26]
def p166:List AV:=[k0,k81,k44,p14,H0,a3r,k30,k26,(.box [k55,k5,k4]),k45,p16,a0e,a8K,p8,k10,k2,k73,.undef]
def d9n:List AV:=((((p166.set 17 B7).set 13 B7).set 14 .nils).set 15 k77)
def c6t:AV:=(.tuple [k80,.nils,k77])
def p169:List AV:=[k60,p61,a3r,p63,a8K,p8,p64,k2,k3,.undef,.undef,.undef,.undef,.undef]
def R7:AV:=(.box [k20,k2,k30,k4,k4])
def p171:List AV:=(((((p169.set 8 k30).set 9 R7).set 10 B7).set 11 .nils).set 12 k77)
def a0q:Obj:=.cells [k0,k39,.nils,k55,k9,k2,k3,k19,k22,.nils,k77]
def d8r:List AV:=((p171.set 5 B7).set 13 k61)
def p174:List AV:=(((p113.set 1 k49).set 2 k44).set 3 k3)
def a8G:AV:=(.box [k2,k1,k2,k3,k10,k10,k10])
def c9d:AV:=(.box [k5,(.str [77]),k18,k43])
def p177:List AV:=[k0,k49,k44,k3,p14,(.box [(.sl 31 0 v.n 4)]),k45,p16,k82,a8G,c9d,k2,.undef,.undef,.undef,.undef,.undef,.undef,.undef,.undef,.undef,.undef]
def p178:List AV:=(((p177.set 12 p16).set 13 k60).set 14 k83)
def p179:List AV:=(((p178.set 19 (.sl 89 0 1 2)).set 20 k26).set 21 k2)
def p180:List AV:=(((p179.set 15 a8K).set 16 p63).set 17 k5)
def M2:Obj:=.cells [k9,k2,k3,(.list true [[k28]]),(.list true [[k9,k2,k3,k78,k79]])]
def c6r:AV:=(.box [k2,k9,k2,k3,k76,k84,k10])
def e1l:List AV:=((((p180.set 18 B7).set 21 k26).set 8 (.box [k55])).set 9 c6r)
def b9n:AV:=(.tuple [k56,k85])
def a6M:St:=(T_b0++[.cells v.C])
def p186:List AV:=[k0,k49,W.txt1,p14,(.box [(.sl 31 0 v.n 4)]),p16,k82,a8G,.undef,.undef]
def p187:List AV:=((p186.set 8 k45).set 9 k2)
def b7c:AV:=(.box [k2,k9,k2,k3,k76,k84,k4])
def c74:List AV:=((p187.set 6 (.box [k55])).set 7 b7c)
def Q6:St:=(W.T_rd1++[.cells [k3],p2])
abbrev Q28:Prop:=Ev e7 223 [p0,k11,p1] Q6 p4 Q6
def b32:St:=(W.T_rd1++[.cells [k3]])
def c75:St:=(b32++[p21])
def a5C:St:=(b32++[p26])
def b8M:Obj:=.cells [k0,k87,.nils,.nils,k9,k2,k3,k19,k22,.nils,k2]
def c8H:Obj:=.cells [k0,k87,.nils,k40,k9,k2,k3,k19,k22,k10,k10]
def p196:St:=(a5C++[b8M,p2,c8H,p32,.cells [k83]])
def d51:Obj:=.cells [k0,k87,.nils,k40,k9,k2,k3,k19,k22,k10,(.sl 88 0 1 2)]
def p198:St:=((p196.set 84 d51)++[p37,p38])
def d7U:List AV:=(((((p35.set 0 k83).set 3 (.ptr 87 0)).set 5 p29).set 6 k2).set 7 (.sl 89 0 1 7))
def d58:Obj:=.cells [k28,(.sl 89 0 1 7)]
def p201:St:=((p198.set 88 d58)++[p32])
def b3I:St:=(a5C++[b8M,p2,c8H])
def p203:List AV:=(((p45.set 0 k83).set 2 k41).set 7 k6)
def d0z:St:=(a5C++[b8M,p2])
def p205:List AV:=(((p49.set 1 k88).set 5 k89).set 8 k83)
def a7r:Obj:=.cells [k0,k87,.nils,k90,k9,k2,k3,k19,k22,.nils,k26]
def a6E:Obj:=.cells [k50,k30,k51,k22]
def a8x:Obj:=.cells [k0,k87,.nils,k90,k5,k4,k9,k2,k3,k19,k22,.nils,k12,k26]
def c9J:Obj:=.cells [k0,k87,.nils,k50,k9,k2,k3,k19,k22,k10,k10]
def p210:St:=((p201.set 82 a7r)++[p51,.cells [k29],.cells [k31],p52,.cells [k32],.cells [k33],p53,.cells [k32],p57,.cells [k33],p58,a6E,a8x,.cells [k90,k5,k4],p2,c9J,p78,.cells [k91]])
def d7g:Obj:=.cells [k0,k87,.nils,k50,k9,k2,k3,k19,k22,k10,(.sl 109 0 1 2)]
def p212:St:=((p210.set 105 d7g)++[.cells [k32],.cells [k32,k10]])
def d5M:List AV:=(((((p81.set 0 k91).set 3 k70).set 5 p76).set 6 k2).set 7 k92)
def a3M:St:=((p212.set 109 (.cells [k32,k92]))++[p78])
def p215:St:=(a3M++[p87,.cells [k91]])
def d7l:Obj:=.cells [k0,k87,.nils,k50,k9,k2,k3,k19,k22,k10,(.sl 114 0 2 2)]
def e0y:Obj:=.cells [k32,k92,k33,k10]
def p218:St:=(((p215.set 105 d7l).set 109 (.dead))++[.cells [k33],e0y])
def d8h:List AV:=(((((p90.set 0 k91).set 3 k71).set 5 p86).set 6 k2).set 7 k93)
def d9Q:Obj:=.cells [k32,k92,k33,k93]
def a3K:St:=((p218.set 114 d9Q)++[p87])
def p222:St:=(a3K++[p98,.cells [k91]])
def d8q:Obj:=.cells [k0,k87,.nils,k50,k9,k2,k3,k19,k22,k10,k94]
def d7G:Obj:=.cells [k32,k92,k33,k93,k37,k10]
def p225:St:=(((p222.set 105 d8q).set 114 (.dead))++[.cells [k37],d7G])
def d6K:List AV:=(((((p101.set 0 k91).set 3 k72).set 5 p97).set 6 k2).set 7 (.sl 120 0 1 7))
def d5G:Obj:=.cells [k32,k92,k33,k93,k37,(.sl 120 0 1 7)]
def p228:St:=((p225.set 119 d5G)++[p98])
def b2V:St:=((p201.set 82 a7r)++[p51,.cells [k29],.cells [k31],p52,.cells [k32],.cells [k33],p53,.cells [k32],p57,.cells [k33],p58,a6E,a8x,.cells [k90,k5,k4],p2,c9J])
def p230:List AV:=(((p110.set 0 k91).set 2 (.ptr 106 0)).set 7 k6)
def p231:List AV:=(((p230.set 6 k26).set 2 (.ptr 111 0)).set 6 k24)
def c7b:St:=((p201.set 82 a7r)++[p51,.cells [k29],.cells [k31],p52,.cells [k32],.cells [k33],p53,.cells [k32],p57,.cells [k33],p58,a6E,a8x,.cells [k90,k5,k4],p2])
def p233:List AV:=(((p205.set 2 k50).set 3 a0a).set 8 k91)
def d98:Obj:=.cells [k0,k87,.nils,k90,k5,k4,k9,k2,k3,k19,k22,.nils,k12,k69]
def p235:St:=(((p228.set 102 d98).set 104 c8D)++[.cells [k0],b70])
def p236:St:=(p235++[.cells [k0],.cells [k11,k4,k12]])
def p237:List AV:=(((p120.set 3 (.ptr 123 0)).set 4 (.ptr 124 0)).set 8 k11)
def c8x:List AV:=((p124.set 0 k95).set 3 k96)
def p239:List AV:=(((p125.set 0 k95).set 3 k96).set 7 k97)
def p240:List AV:=(((p126.set 0 k95).set 3 k96).set 7 k97)
def e0j:List AV:=(((p240.set 11 p7).set 8 p7).set 9 k5)
def d7L:List AV:=((p130.set 0 k95).set 4 k96)
def p243:List AV:=(((p132.set 0 k95).set 4 k96).set 8 k97)
def c78:List AV:=(((p243.set 11 p7).set 9 p7).set 10 k5)
def c9r:St:=((p201.set 82 a7r)++[p51,.cells [k29],.cells [k31],p52,.cells [k32],.cells [k33],p53,.cells [k32],p57,.cells [k33],p58,a6E,a8x,.cells [k90,k5,k4]])
def d7N:List AV:=(((((p136.set 0 k95).set 8 k73).set 15 k94).set 16 k69).set 17 k2)
def p247:List AV:=[k95,k50,p56,a0a,a3Z,p68,p8,k12,k73,(.box [k32,k92]),d1u,k5,c59,p24,k5,k94,k69,k26]
def c73:Obj:=.cells [k0,k87,.nils,k90,k5,k4,k9,k2,k3,k19,k22,.nils,k12,k24]
def p249:List AV:=(((p247.set 9 k97).set 10 b0m).set 12 c5o)
def p250:List AV:=[k95,k50,p56,a0a,a3Z,p68,p8,k12,k73,(.box [k37,(.sl 120 0 1 7)]),b7C,k5,c9o,c7S,k5,k94,k69,k69]
def d9c:Obj:=.cells [k0,k87,.nils,k90,k5,k4,k9,k2,k3,k19,k22,.nils,k12,k77]
def p252:St:=(((p236.set 104 p53).set 102 d9c).set 104 d1c)
def a5r:AV:=(.agg [k28,(.sl 89 0 1 7)])
def d0O:List AV:=(((((p135.set 1 H0).set 2 U6).set 3 a3r).set 0 k95).set 3 a5r)
def b2G:St:=((p201.set 82 a7r)++[p51,.cells [k29],.cells [k31],p52,.cells [k32],.cells [k33],p53,.cells [k32],p57,.cells [k33],p58,a6E,a8x])
def a9J:AV:=(.box [k28,(.sl 89 0 1 7)])
def p257:List AV:=(((((p160.set 14 p68).set 15 k5).set 0 k95).set 3 a5r).set 7 a9J)
def p258:List AV:=(((p163.set 0 k95).set 3 a5r).set 7 a9J)
def e0i:List AV:=(((p258.set 11 B7).set 8 B7).set 9 k5)
def e04:List AV:=(((p165.set 1 k98).set 2 k88).set 5 a5r)
def c5u:St:=((p201.set 82 a7r)++[p51,.cells [k29],.cells [k31],p52,.cells [k32],.cells [k33],p53,.cells [k32],p57,.cells [k33],p58,a6E])
def p262:List AV:=[k0,k98,k88,p14,H0,a5r,k30,k26,(.box [k90,k5,k4]),k89,p16,a0e,a9J,p8,k10,k2,k95,.undef]
def d8L:List AV:=((((p262.set 17 B7).set 13 B7).set 14 .nils).set 15 k77)
def c9s:Obj:=.cells [k0,k87,.nils,.nils,k9,k2,k3,k19,k22,.nils,k26]
def p265:List AV:=(((((p169.set 8 k30).set 9 R7).set 0 (.ptr 82 0)).set 2 a5r).set 4 a9J)
def p266:List AV:=(((p265.set 10 B7).set 11 .nils).set 12 k77)
def a0b:Obj:=.cells [k0,k87,.nils,k90,k9,k2,k3,k19,k22,.nils,k77]
def e0P:List AV:=((p266.set 5 B7).set 13 k61)
def p269:List AV:=((p174.set 1 k99).set 2 k88)
def p270:List AV:=[k0,k99,k88,k3,p14,k82,k89,p16,k82,a8G,c9d,k2,.undef,.undef,.undef,.undef,.undef,.undef,.undef,.undef,.undef,.undef]
def p271:List AV:=(((p270.set 12 p16).set 13 (.ptr 82 0)).set 14 k60)
def p272:List AV:=(((p271.set 19 (.sl 88 0 1 2)).set 20 k26).set 21 k2)
def p273:List AV:=(((p272.set 15 a9J).set 16 p63).set 17 k5)
def d7S:List AV:=((((p273.set 18 B7).set 21 k26).set 8 b92).set 9 c6r)
def b8B:AV:=(.tuple [(.agg [k90]),k85])
def p276:List AV:=((((p186.set 1 k99).set 4 k82).set 8 k89).set 9 k2)
def d95:Obj:=.cells [k9,k2,k3,(.list true [[k16]]),k54]
def R4:St:=((a6D v.C)++[.cells [k3],d95])
abbrev Q52:Prop:=Ev e7 223 [p0,k11,p1] R4 p4 R4
def a9W:AV:=c9G
def b20:St:=((a6D v.C)++[.cells [k3]])
def p281:List AV:=(((p17.set 7 k86).set 1 a9W).set 7 (.ptr 130 0))
def d0P:St:=(b20++[p2])
def d68:List AV:=(((p281.set 12 a9W).set 13 k24).set 14 k2)
def p284:List AV:=[k0,a9W,p14,p16,p8,k3,k2,(.ptr 130 0),p23,p24,k5,k2,a9W,k24,k26]
def d65:Obj:=.cells [k9,k2,k3,(.list true [[k16],[k15]]),k48]
def a3f:St:=(b20++[d65])
def p287:List AV:=(((p284.set 8 p19).set 9 p7).set 14 k24)
def a6W:AV:=(.box [k9,k2,k3,L4,k47])
def d6p:AV:=(.tuple [c7H,k3,k2])
def b8L:AV:=(.agg [k6,k3,J0,k3,b3k,k4,b0n])
def b76:Obj:=.cells [k0,L6,.nils,a8y,k9,k2,k3,L4,k47,.nils,k2]
def c7E:Obj:=.cells [k0,L6,.nils,k40,k9,k2,k3,L4,k47,k10,k10]
def c5g:Obj:=.cells [k6,k3,J0,k3,b3k,k4,b0n]
def p294:St:=(a3f++[b76,p2,c7E,c5g,.cells [a3m]])
def e03:AV:=(.box [k6,k3,J0,k3,b3k,k4,b0n])
def p296:List AV:=[a3m,b8L,e03,(.ptr 136 0),k2,.undef,.undef,.undef]
def d7r:Obj:=.cells [k0,L6,.nils,k40,k9,k2,k3,L4,k47,k10,(.sl 137 0 1 2)]
def d5F:Obj:=.cells [J0]
def d6F:Obj:=.cells [J0,k10]
def p300:St:=((p294.set 133 d7r)++[d5F,d6F])
def d6b:List AV:=(((p296.set 5 b8L).set 6 k2).set 7 a7i)
def d8D:Obj:=.cells [J0,a7i]
def a4p:St:=((p300.set 137 d8D)++[c5g])
def b64:AV:=(.agg [k6,Y0,J0,k3,b3t,k4,b0G])
def d1I:Obj:=.cells [k6,Y0,J0,k3,b3t,k4,b0G]
def p306:St:=(a4p++[d1I,.cells [a3m]])
def e1j:AV:=(.box [k6,Y0,J0,k3,b3t,k4,b0G])
def p308:List AV:=[a3m,b64,e1j,(.ptr 141 0),k26,.undef,.undef,.undef]
def d5R:Obj:=.cells [k0,L6,.nils,k40,k9,k2,k3,L4,k47,k10,(.sl 142 0 2 2)]
def d6Q:Obj:=.cells [J0,a7i,Y0,k10]
def p311:St:=(((p306.set 133 d5R).set 137 (.dead))++[.cells [Y0],d6Q])
def d89:List AV:=(((p308.set 5 b64).set 6 k2).set 7 (.sl 143 0 1 7))
def d8e:Obj:=.cells [J0,a7i,Y0,(.sl 143 0 1 7)]
def p314:St:=((p311.set 142 d8e)++[d1I])
def b0p:AV:=d1d
def b2C:St:=(a3f++[b76,p2,c7E])
def p317:List AV:=[a3m,b0p,.undef,.undef,b0p,k24,k2,.undef]
def p318:List AV:=(((p317.set 2 (.ptr 134 0)).set 7 k6).set 6 k26)
def a9G:AV:=c7H
def p320:List AV:=((((p47.set 1 k88).set 1 a5w).set 3 b0p).set 4 a9G)
def c7i:St:=(a3f++[b76,p2])
def p322:List AV:=[k0,a5w,k40,b0p,a9G,a8M,a6W,k10,a3m]
def b8W:Obj:=.cells [k0,L6,.nils,a8y,k9,k2,k3,L4,k47,.nils,k26]
def d91:Obj:=.cells [k9,k2,k3,k46,(.list true [[k20,k2,k30,k4,k4],[k9,k2,k3,d0j,c6E]])]
def e0r:Obj:=.cells [k9,k2,k3,k46,(.list true [[k20,k2,k30,k4,k4],[k9,k2,k3,b3A,b8p]])]
def d6m:Obj:=.cells [k9,k2,k3,(.list true [[k32],[k33],[k37],[k63]]),(.list true [[k20,k2,k21,k4,k4],[k1,k2,k3,k4,k4],[a0m,k2,a0d,k4,k4],[a2j,k2,k3,k4,a2M]])]
def a3j:St:=((p314.set 131 b8W)++[d91,.cells [k29],.cells [k31],e0r,.cells [k33],.cells [k37],.cells [k63],.cells [k32],d6m])
abbrev Q60:Prop:=Ev e7 177 [a7t,k30] a3j p75 a3j
def b4i:AV:=c55
def d6a:Obj:=.cells [k50,k30,(.list true [[k37],[k32]]),(.list true [[a0m,k2,a0d,k4,k4],[k20,k2,k21,k4,k4]])]
def e0n:Obj:=.cells [k50,k30,(.list true [[k37],[k32],[k63]]),(.list true [[a0m,k2,a0d,k4,k4],[k20,k2,k21,k4,k4],[a2j,k2,k3,k4,a2M]])]
def b0c:St:=(a3j++[.cells [k32],p58,.cells [k33],p57,.cells [k37],d6a,.cells [k63],e0n])
def p332:St:=(b0c++[.cells v.C2])
abbrev Q61:Prop:=Ev e7 17 [a7t,b4i] b0c b4L p332
def a4k:AV:=(.agg [J0,k57,k50,k4,k12,k12,k1,k2,k3,k4,k4])
def b8R:AV:=(.agg [k9,k2,k3,k58,d1z])
def b0E:AV:=(.box [J0,k57,k50,k4,k12,k12,k1,k2,k3,k4,k4])
def b8x:AV:=(.box [k9,k2,k3,k58,d1z])
def p337:List AV:=[a2W,a4k,k30,b8R,b0E,b8x,k2,a8t,k50,.undef,.undef,.undef,.undef,.undef,.undef,.undef,.undef,.undef,.undef]
def a5u:AV:=(.box [k50,k30,c7L,c7h])
def d9v:AV:=(.box [k9,k2,k3,b3A,b8p])
def d8s:AV:=b3A
def b83:List AV:=[a2W,a4k,k30,b8R,b0E,b8x,k2,a8t,k50,a5u,k5,p69,d9v,k69,(.ptr 159 0),a7e,d8s,k77,k77]
def a4d:Obj:=.cells [k0,L6,.nils,a2N,k9,k2,k3,L4,k47,.nils,k26]
def c7y:Obj:=.cells [k0,L6,.nils,a2N,k5,k4,k9,k2,k3,L4,k47,.nils,k12,k26]
def a2a:St:=((p332.set 131 a4d)++[c7y,.cells [a2N,k5,k4]])
def d1K:AV:=(.tuple [c55,k5])
abbrev Q63:Prop:=Ev e7 177 [b4L,k30] a2a d1K a2a
def b41:Obj:=.cells [k0,L6,.nils,k50,k9,k2,k3,L4,k47,k10,k10]
def p347:St:=(a2a++[p2,b41,p87,.cells [a0R]])
def p348:List AV:=(((((p90.set 0 k91).set 3 k71).set 0 a0R).set 3 (.ptr 168 0)).set 4 k2)
def d6Z:Obj:=.cells [k0,L6,.nils,k50,k9,k2,k3,L4,k47,k10,(.sl 169 0 1 2)]
def p350:St:=((p347.set 165 d6Z)++[.cells [k33],.cells [k33,k10]])
def e0o:List AV:=(((p348.set 5 p86).set 6 k2).set 7 a7o)
def a3P:St:=((p350.set 169 (.cells [k33,a7o]))++[p87])
def p353:St:=(a3P++[p98,.cells [a0R]])
def p354:List AV:=(((((p101.set 0 k91).set 3 k72).set 0 a0R).set 3 (.ptr 173 0)).set 4 k26)
def e1c:Obj:=.cells [k0,L6,.nils,k50,k9,k2,k3,L4,k47,k10,(.sl 174 0 2 2)]
def d6e:Obj:=.cells [k33,a7o,k37,k10]
def p357:St:=(((p353.set 165 e1c).set 169 (.dead))++[.cells [k37],d6e])
def d7P:List AV:=(((p354.set 5 p97).set 6 k2).set 7 (.sl 175 0 1 7))
def d8b:Obj:=.cells [k33,a7o,k37,(.sl 175 0 1 7)]
def a3Y:St:=((p357.set 174 d8b)++[p98])
def b9o:AV:=(.agg [k6,k3,k63,k3,k4,k4,k4])
def c5l:Obj:=.cells [k6,k3,k63,k3,k4,k4,k4]
def p363:St:=(a3Y++[c5l,.cells [a0R]])
def d8a:AV:=(.box [k6,k3,k63,k3,k4,k4,k4])
def p365:List AV:=[a0R,b9o,d8a,(.ptr 178 0),k24,.undef,.undef,.undef]
def d5x:Obj:=.cells [k0,L6,.nils,k50,k9,k2,k3,L4,k47,k10,b0z]
def e1o:Obj:=.cells [k33,a7o,k37,(.sl 175 0 1 7),k63,k10]
def p368:St:=(((p363.set 165 d5x).set 174 (.dead))++[.cells [k63],e1o])
def d96:List AV:=(((p365.set 5 b9o).set 6 k2).set 7 (.sl 180 0 1 7))
def d6E:Obj:=.cells [k33,a7o,k37,(.sl 175 0 1 7),k63,(.sl 180 0 1 7)]
def p371:St:=((p368.set 179 d6E)++[c5l])
def a3D:AV:=b0n
def b2W:St:=(a2a++[p2,b41])
def p374:List AV:=((((p110.set 0 k91).set 0 a0R).set 1 a3D).set 4 a3D)
def p375:List AV:=(((p374.set 2 (.ptr 166 0)).set 7 k6).set 6 k26)
def p376:List AV:=(((p375.set 2 (.ptr 171 0)).set 6 k24).set 2 (.ptr 176 0))
def p377:List AV:=((p320.set 2 k50).set 3 a3D)
def d15:St:=(a2a++[p2])
def p379:List AV:=(((p322.set 2 k50).set 3 a3D).set 8 a0R)
def b0g:AV:=(.list false [[J0]])
def p381:List AV:=[a6Q,k50,b4i,a3D,b0g]
def p382:List AV:=[a6Q,k50,b4i,a3D,b0g,a5u,p8,k12,(.ptr 164 0),.undef,.undef,.undef,.undef,.undef,.undef,.undef,.undef,.undef]
def d6B:List AV:=(((p382.set 15 b0z).set 16 k69).set 17 k2)
def e0g:Obj:=.cells [k0,L6,.nils,a2N,k5,k4,k9,k2,k3,L4,k47,.nils,k12,a7e]
def d6v:Obj:=.cells [k9,k2,k3,(.list true [[k33],[k37],[k63]]),(.list true [[k1,k2,k3,k4,k4],[a0m,k2,a0d,k4,k4],[a2j,k2,k3,k4,a2M]])]
def p386:St:=(((p371.set 162 e0g).set 164 d6v)++[.cells [k0],.cells [k62,k4,k12],.cells [k0],b70])
def d9e:AV:=(.box [k63,k4,k3,k64,k12,k12,k1,k2,k3,k4,k4])
def d66:AV:=(.list true [[J0],[k63]])
def d9p:AV:=(.box [a2j,k2,k3,k4,a2M])
def p390:List AV:=[a6Q,k50,b4i,a3D,b0g,a5u,p8,k12,(.ptr 164 0),(.box [k63,(.sl 180 0 1 7)]),d9e,k5,d66,d9p,k5,b0z,k69,k69]
def U4:AV:=(.box [k9,k2,k3,a8r,b0i])
def c8o:AV:=(.tuple [b8n,k5])
def a3A:AV:=(.agg [J0,a7i])
def b2J:St:=((p332.set 131 a4d)++[c7y])
def a9d:AV:=(.box [J0,a7i])
def p396:List AV:=[a6Q,H0,U6,a3A,b0g,a0e,a3T,a9d,p8,.undef,.undef,.undef,.undef,.undef,.undef,.undef,.undef,.undef,.undef,.undef]
def p397:List AV:=(((p396.set 14 a5u).set 15 k5).set 16 U4)
def d1p:AV:=b8n
def p399:List AV:=[a6Q,H0,U6,a3A,b0g,a0e,a3T,a9d,p8,k12,k2,.undef]
def d7h:List AV:=(((p399.set 11 U4).set 8 U4).set 9 k5)
def p401:List AV:=[k0,d0l,a5w,a9G,H0,a3A,k30,k26]
def p402:List AV:=[k0,d0l,a5w,a9G,H0,a3A,k30,k26,(.box [a2N,k5,k4]),a8M,a6W,a0e,a9d,p8,k10,k2,a6Q,.undef]
def d75:List AV:=((((p402.set 17 U4).set 13 U4).set 14 .nils).set 15 a7e)
def d54:AV:=(.tuple [b8n,.nils,a7e])
def p405:List AV:=[a2W,a4k,a3A,b0E,a9d,p8,b8x,k2,k3,.undef,.undef,.undef,.undef,.undef]
def p406:List AV:=(((((p405.set 8 k30).set 9 R7).set 10 U4).set 11 .nils).set 12 a7e)
def a4c:Obj:=.cells [k0,L6,.nils,a2N,k9,k2,k3,L4,k47,.nils,a7e]
def e1q:List AV:=((p406.set 5 U4).set 13 a8t)
def c8X:Obj:=.cells [k0,L6,.nils,a2N,k9,k2,k3,L4,k47,.nils,a9o]
def c5H:Obj:=.cells [k9,k2,k3,(.list true [[J0]]),(.list true [[k9,k2,k3,a8r,b0i]])]
def d8y:Obj:=.cells [k9,k2,k3,k46,(.list true [[k20,k2,k30,k4,k4],[k9,k2,k3,a3k,c5w]])]
def d81:Obj:=.cells [k9,k2,k3,k46,(.list true [[k20,k2,k30,k4,k4],[k9,k2,k3,a3k,a6Z]])]
def M1:Obj:=.cells [k9,k2,k3,(.list true [[k33]]),k25]
def a3q:St:=((((p386.set 131 a4c).set 131 c8X).set 132 c5H)++[d8y,.cells [k29],.cells [k31],d81,.cells [k33],M1])
abbrev Q74:Prop:=Ev e7 177 [b4L,k30] a3q d1K a3q
def a4b:AV:=c7D
def d9G:Obj:=.cells [k50,k30,(.list true [[k33],[k37],[k32],[k63]]),(.list true [[k6,k7,k3,k4,k4],[a0m,k2,a0d,k4,k4],[k20,k2,k21,k4,k4],[a2j,k2,k3,k4,a2M]])]
def a9v:St:=(a3q++[.cells [k33],d9G])
def p418:St:=(a9v++[.cells v.C3])
abbrev Q75:Prop:=Ev e7 17 [b4L,a4b] a9v a2b p418
def b3p:AV:=(.agg [k9,k2,k3,k58,c6i])
def b4H:AV:=(.box [k9,k2,k3,k58,c6i])
def d72:List AV:=((((p337.set 3 b3p).set 5 b4H).set 9 a5u).set 10 k5)
def Y4:AV:=(.box [k50,k30,d1X,c8K])
def S4:AV:=(.box [k9,k2,k3,a3k,a6Z])
def b9s:List AV:=[a2W,a4k,k30,b3p,b0E,b4H,k2,a8t,k50,Y4,k5,p69,S4,k2,(.ptr 191 0),k26,a3k,k26,k26]
def a3E:Obj:=.cells [k0,L6,.nils,W7,k9,k2,k3,L4,k47,.nils,a9o]
def d07:Obj:=.cells [k0,L6,.nils,W7,k5,k4,k9,k2,k3,L4,k47,.nils,k12,a9o]
def a1X:St:=((p418.set 131 a3E)++[d07,.cells [W7,k5,k4]])
def b7l:AV:=(.tuple [c7D,k5])
abbrev Q77:Prop:=Ev e7 177 [a2b,k30] a1X b7l a1X
def p429:St:=(a1X++[p2,b41,p87,.cells [a1k]])
def d9F:Obj:=.cells [k0,L6,.nils,k50,k9,k2,k3,L4,k47,k10,a9O]
def p431:St:=((p429.set 197 d9F)++[.cells [k33],.cells [k33,k10]])
def d8m:List AV:=(((((p348.set 0 a1k).set 3 (.ptr 200 0)).set 5 p86).set 6 k2).set 7 (.sl 202 0 1 7))
def p433:St:=((p431.set 201 (.cells [k33,(.sl 202 0 1 7)]))++[p87])
def a1Y:AV:=b0G
def b2T:St:=(a1X++[p2,b41])
def p436:List AV:=((((p45.set 0 k83).set 0 a1k).set 1 a1Y).set 4 a1Y)
def c7q:List AV:=(((p436.set 2 (.ptr 198 0)).set 7 k6).set 6 k26)
def c9e:St:=(a1X++[p2])
def d6V:List AV:=(((p379.set 3 a1Y).set 8 a1k).set 7 a9O)
def a0U:Obj:=.cells [k0,L6,.nils,W7,k5,k4,k9,k2,k3,L4,k47,.nils,k12,b0K]
def p441:List AV:=((((p120.set 3 (.ptr 123 0)).set 4 (.ptr 124 0)).set 3 (.ptr 203 0)).set 4 (.ptr 204 0))
def p442:St:=((p433.set 194 a0U)++[.cells [k0],.cells [k11,k4,k12]])
def p443:List AV:=(((p122.set 0 k95).set 0 a0r).set 4 k5)
def d06:List AV:=(((p443.set 1 k13).set 3 a8q).set 4 b0H)
def p445:List AV:=[a0r,k13,p1,a8q,b0H,k14,p7,b2K,p8,.undef,.undef,.undef,.undef,.undef,.undef,.undef,.undef,.undef,.undef,.undef]
def p446:List AV:=[a0r,k13,p1,a8q,b0H,k14,p7,b2K,p8,k12,k2,.undef]
def d7K:List AV:=(((p446.set 11 p7).set 8 p7).set 9 k5)
def d5z:List AV:=[a0r,k50,a4b,b3V,a8q,b0H]
def p449:List AV:=[a0r,k50,a4b,b3V,a8q,b0H,Y4,b0m,b2K,p8,k12,.undef,.undef,.undef,.undef,.undef,.undef,.undef,.undef,.undef,.undef]
def c5E:List AV:=(((p449.set 11 p7).set 9 p7).set 10 k5)
def p451:List AV:=[a0r,k50,a4b,a1Y,a9e]
def p452:List AV:=[a0r,k50,a4b,a1Y,a9e,Y4,p8,k12,(.ptr 196 0),.undef,.undef,.undef,.undef,.undef,.undef,.undef,.undef,.undef]
def c9c:List AV:=(((p452.set 15 a9O).set 16 k26).set 17 k2)
def p454:List AV:=[a0r,k50,a4b,a1Y,a9e,Y4,p8,k12,(.ptr 196 0),b2K,b0m,k5,(.list true [[Y0],[k33]]),.undef,.undef,a9O,k26,k2]
def p455:List AV:=(((p454.set 13 p7).set 14 k5).set 17 k26)
def c9B:AV:=(.tuple [b7p,k5])
def c5j:List AV:=(((p451.set 1 H0).set 2 U6).set 3 a5s)
def b3g:St:=((p418.set 131 a3E)++[d07])
def p459:List AV:=[a0r,H0,U6,a5s,a9e,a0e,a3T,a9H,p8,.undef,.undef,.undef,.undef,.undef,.undef,.undef,.undef,.undef,.undef,.undef]
def p460:List AV:=(((p459.set 14 Y4).set 15 k5).set 16 S4)
def c7M:AV:=b7p
def p462:List AV:=[a0r,H0,U6,a5s,a9e,a0e,a3T,a9H,p8,k12,k2,.undef]
def e0k:List AV:=(((p462.set 11 S4).set 8 S4).set 9 k5)
def d9V:List AV:=(((p401.set 1 b2r).set 5 a5s).set 7 a9o)
def p465:List AV:=[k0,b2r,a5w,a9G,H0,a5s,k30,a9o,d0N,a8M,a6W,a0e,a9H,p8,k10,k2,a0r,.undef]
def d9f:List AV:=((((p465.set 17 S4).set 13 S4).set 14 .nils).set 15 b0K)
def e0h:AV:=(.tuple [b7p,.nils,b0K])
def d8Y:List AV:=[a2W,a4k,a5s]
def p469:St:=(((p386.set 131 a4c).set 131 c8X).set 132 c5H)
def p470:List AV:=(((p405.set 2 a5s).set 4 a9H).set 6 b4H)
def p471:List AV:=(((((p470.set 8 k30).set 9 R7).set 10 S4).set 11 .nils).set 12 b0K)
def b36:Obj:=.cells [k0,L6,.nils,W7,k9,k2,k3,L4,k47,.nils,b0K]
def d9R:List AV:=((p471.set 5 S4).set 13 a8t)
def p474:List AV:=((p269.set 1 a7t).set 2 a5w)
def d86:AV:=(.box [k5,(.str [77]),c9G,d1d])
def p476:List AV:=[k0,a7t,a5w,k3,p14,(.box [a8y]),a8M,p16,k82,a8G,d86,k2,.undef,.undef,.undef,.undef,.undef,.undef,.undef,.undef,.undef,.undef]
def p477:List AV:=(((p476.set 12 a6W).set 13 a2W).set 14 (.ptr 132 0))
def p478:List AV:=(((p477.set 19 (.sl 142 0 2 2)).set 20 k24).set 21 k2)
def p479:List AV:=(((p478.set 15 a9d).set 16 b0E).set 17 k5)
def p480:List AV:=(((p479.set 18 U4).set 21 k26).set 15 a9H)
def d8Q:Obj:=.cells [k9,k2,k3,(.list true [[J0],[Y0]]),(.list true [[k9,k2,k3,a8r,b0i],[k9,k2,k3,a3k,a6Z]])]
def a0g:St:=(((p442.set 196 M1).set 131 b36).set 132 d8Q)
def d5K:AV:=(.box [k2,k9,k2,k3,b9P,b8i,k10])
def e0t:List AV:=((((p480.set 18 S4).set 21 k24).set 8 b4n).set 9 d5K)
def b8G:AV:=(.tuple [a2b,(.agg [k2,k9,k2,k3,b9P,b8i,k4])])
def c6d:List AV:=[k0,a7t,W.txt2,p14]
def p487:List AV:=(((((p186.set 1 k99).set 4 k82).set 1 a7t).set 2 W.txt2).set 4 (.box [a8y]))
def p488:List AV:=((p487.set 8 a8M).set 9 k2)
def e0U:AV:=(.box [k2,k9,k2,k3,b9P,b8i,k4])
def c6e:List AV:=((p488.set 6 b4n).set 7 e0U)
def F2:St:=a0g
def a5X:St:=shS 31 (F2.drop 31) W.T_rd3
def b8c:AV:=(.agg [k6,k3,Z1,k3,b3o,k4,a9X])
def b9z:Obj:=.cells [k0,a0S,.nils,W7,k9,k2,k3,k4,k4,.nils,k2]
def c8b:Obj:=.cells [k0,a0S,.nils,k40,k9,k2,k3,k4,k4,k10,k10]
def c7N:Obj:=.cells [k6,k3,Z1,k3,b3o,k4,a9X]
def p495:St:=(a5X++[.cells [k3],p2,b9z,p2,c8b,c7N,.cells [a6L]])
def d85:AV:=(.box [k6,k3,Z1,k3,b3o,k4,a9X])
def p497:List AV:=[a6L,b8c,d85,(.ptr 235 0),k2,.undef,.undef,.undef]
def e0v:Obj:=.cells [k0,a0S,.nils,k40,k9,k2,k3,k4,k4,k10,(.sl 236 0 1 2)]
def d6o:Obj:=.cells [Z1]
def e1h:Obj:=.cells [Z1,k10]
def p501:St:=((p495.set 232 e0v)++[d6o,e1h])
def d6J:List AV:=(((p497.set 5 b8c).set 6 k2).set 7 (.sl 237 0 1 7))
def d6O:Obj:=.cells [Z1,(.sl 237 0 1 7)]
def p504:St:=((p501.set 236 d6O)++[c7N])
def a9p:AV:=c8I
def b2X:St:=(a5X++[.cells [k3],p2,b9z,p2,c8b])
def p507:List AV:=(((p436.set 0 a6L).set 1 a9p).set 4 a9p)
def d1t:List AV:=(((p507.set 2 (.ptr 233 0)).set 7 k6).set 6 k26)
def b2k:AV:=(.agg [k9,k2,k3,k4,k4])
def p510:List AV:=(((p320.set 1 a6C).set 3 a9p).set 4 b2k)
def d05:St:=(a5X++[.cells [k3],p2,b9z,p2])
def b9h:AV:=(.box [k9,k2,k3,k4,k4])
def p513:List AV:=[k0,a6C,k40,a9p,b2k,b4h,b9h,k10,a6L]
def b65:Obj:=.cells [k0,a0S,.nils,W7,k9,k2,k3,k4,k4,.nils,k26]
def c6n:Obj:=.cells [k9,k2,k3,(.list true [[k29]]),(.list true [[k20,k2,k30,k4,k4]])]
def W6:St:=((p504.set 230 b65)++[c6n,.cells [k29],c6n])
abbrev Q96:Prop:=Ev e7 177 [a2b,k30] W6 b7l W6
def b2l:AV:=(.agg [Z1,c7o,k50,k4,k12,k12,k1,k2,k3,k4,k4])
def c8O:AV:=(.agg [k9,k2,k3,(.list false [[k29]]),c6W])
def b7F:AV:=(.box [Z1,c7o,k50,k4,k12,k12,k1,k2,k3,k4,k4])
def c7J:AV:=(.box [k9,k2,k3,(.list false [[k29]]),c6W])
def p521:List AV:=[(.ptr 230 0),b2l,k30,c8O,b7F,c7J,k2,b2x,k50,.undef,.undef,.undef,.undef,.undef,.undef,.undef,.undef,.undef,.undef]
def c50:Obj:=.cells [k0,a0S,.nils,W7,k5,k4,k9,k2,k3,k4,k4,.nils,k12,k26]
def a2i:St:=(W6++[c50,.cells [W7,k5,k4]])
abbrev Q98:Prop:=Ev e7 177 [a2b,k30] a2i b7l a2i
def c6V:Obj:=.cells [k0,a0S,.nils,k50,k9,k2,k3,k4,k4,k10,k10]
def p525:St:=(a2i++[p2,c6V,p98,.cells [a6H]])
def p526:List AV:=(((p354.set 0 a6H).set 3 (.ptr 247 0)).set 4 k2)
def d8A:Obj:=.cells [k0,a0S,.nils,k50,k9,k2,k3,k4,k4,k10,b0h]
def p528:St:=((p525.set 244 d8A)++[.cells [k37],.cells [k37,k10]])
def d55:List AV:=(((p526.set 5 p97).set 6 k2).set 7 (.sl 249 0 1 7))
def p530:St:=((p528.set 248 (.cells [k37,(.sl 249 0 1 7)]))++[p98])
def a3N:AV:=a9X
def b3C:St:=(a2i++[p2,c6V])
def p533:List AV:=(((p507.set 0 a6H).set 1 a3N).set 4 a3N)
def c7v:List AV:=(((p533.set 2 (.ptr 245 0)).set 7 k6).set 6 k26)
def e0M:List AV:=((p510.set 2 k50).set 3 a3N)
def c8e:St:=(a2i++[p2])
def p537:List AV:=(((p513.set 2 k50).set 3 a3N).set 8 a6H)
def a9A:AV:=b30
def p539:List AV:=(((p451.set 0 a7f).set 3 a3N).set 4 a9A)
def p540:List AV:=[a7f,k50,a4b,a3N,a9A,Y4,p8,k12,(.ptr 243 0),.undef,.undef,.undef,.undef,.undef,.undef,.undef,.undef,.undef]
def e1i:List AV:=(((p540.set 15 b0h).set 16 k26).set 17 k2)
def d5S:Obj:=.cells [k0,a0S,.nils,W7,k5,k4,k9,k2,k3,k4,k4,.nils,k12,k24]
def e0I:Obj:=.cells [k9,k2,k3,(.list true [[k37]]),(.list true [[a0m,k2,a0d,k4,k4]])]
def p544:St:=(((p530.set 241 d5S).set 243 e0I)++[.cells [k0],.cells [k62,k4,k12]])
def d5D:AV:=(.list true [[Z1],[k37]])
def e06:AV:=(.box [a0m,k2,a0d,k4,k4])
def p547:List AV:=[a7f,k50,a4b,a3N,a9A,Y4,p8,k12,(.ptr 243 0),(.box [k37,(.sl 249 0 1 7)]),b7C,k5,d5D,e06,k5,b0h,k26,k26]
def U5:AV:=(.box [k9,k2,k3,b3Z,b4f])
def c9h:AV:=(.tuple [b8H,k5])
def a3W:AV:=(.agg [Z1,(.sl 237 0 1 7)])
def b4D:St:=(W6++[c50])
def a84:AV:=(.box [Z1,(.sl 237 0 1 7)])
def p553:List AV:=[a7f,H0,U6,a3W,a9A,a0e,a3T,a84,p8,.undef,.undef,.undef,.undef,.undef,.undef,.undef,.undef,.undef,.undef,.undef]
def p554:List AV:=(((p553.set 14 Y4).set 15 k5).set 16 U5)
def d0x:AV:=b8H
def p556:List AV:=[a7f,H0,U6,a3W,a9A,a0e,a3T,a84,p8,k12,k2,.undef]
def e0A:List AV:=(((p556.set 11 U5).set 8 U5).set 9 k5)
def d7H:List AV:=[k0,b2r,a6C,b2k,H0,a3W,k30,k26]
def p559:List AV:=[k0,b2r,a6C,b2k,H0,a3W,k30,k26,d0N,b4h,b9h,a0e,a84,p8,k10,k2,a7f,.undef]
def d8E:List AV:=((((p559.set 17 U5).set 13 U5).set 14 .nils).set 15 k24)
def d8P:AV:=(.tuple [b8H,.nils,k24])
def a7j:Obj:=.cells [k0,a0S,.nils,W7,k9,k2,k3,k4,k4,.nils,k24]
def p563:St:=((p544.set 230 a7j)++[.dead,.cells v.C4])
abbrev b2B:Prop:=Ev e7 12 [a2b,k30] (p544.set 230 a7j) (.agg [(.sl 253 0 v.n 4)]) p563
def p564:List AV:=[(.ptr 230 0),b2l,a3W,b7F,a84,p8,c7J,k2,k3,.undef,.undef,.undef,.undef,.undef]
def p565:List AV:=(((((p564.set 8 k30).set 9 R7).set 10 U5).set 11 .nils).set 12 k24)
def Z5:Obj:=.cells [k0,a0S,.nils,(.sl 253 0 v.n 4),k9,k2,k3,k4,k4,.nils,k24]
def d6q:List AV:=((p565.set 13 b2x).set 5 U5)
def d52:List AV:=((p474.set 1 a2b).set 2 a6C)
def d7V:AV:=(.box [k5,k3,k4,c8I])
def p570:List AV:=[k0,a2b,a6C,k3,p14,b4n,b4h,p16,k82,a8G,d7V,k2,b9h,(.ptr 230 0),(.ptr 231 0),.undef,.undef,.undef,.undef,.undef,.undef,.undef]
def p571:List AV:=(((p570.set 19 (.sl 236 0 1 2)).set 20 k26).set 21 k2)
def p572:List AV:=(((p571.set 15 a84).set 16 b7F).set 17 k5)
def a2g:Obj:=.cells [k9,k2,k3,(.list true [[Z1]]),(.list true [[k9,k2,k3,b3Z,b4f]])]
def d8K:AV:=(.box [k2,k9,k2,k3,b30,b7D,k10])
def e1e:List AV:=((((p572.set 18 U5).set 21 k26).set 8 (.box [(.sl 253 0 v.n 4)])).set 9 d8K)
def b8O:AV:=(.tuple [(.agg [(.sl 253 0 v.n 4)]),(.agg [k2,k9,k2,k3,b30,b7D,k4])])
def d0R:List AV:=[k0,a2b,W.txt3,p14]
def p578:List AV:=(((p487.set 1 a2b).set 2 W.txt3).set 4 b4n)
def p579:List AV:=((p578.set 8 b4h).set 9 k2)
def e01:AV:=(.box [k2,k9,k2,k3,b30,b7D,k4])
def c9H:List AV:=((p579.set 6 (.box [(.sl 253 0 v.n 4)])).set 7 e01)
theorem d2C:shS 31 (F2.drop 31) T_b0=F2:=by kernel_rfl
theorem c8W:Ev e7 19 [.ptr 2 0,W.txt3] F2 (W.R_rd3.sh 31 (F2.drop 31).length) a5X:=by have h:=Ev.sh P2 (L:=31) (F2.drop 31) (show 31≤T_b0.length from Nat.le_of_eq (show 31=T_b0.length by kernel_rfl)) (ev_ofG W.m_rd3);rw[d2C]at h;exact h
variable (hm:MOK v.m) (hn:v.n≤12)
include hm hn
theorem t1 (i:Q0):Ev e7 169 p5 p3 p4 p3:=wF (fn:=a169) (wS 4 p9 p3 (XC.seq (wC 4 ((p9.set 6 p7).set 7 k5) p3 i) (wR ((p9.set 6 p7).set 7 k5) p3)))
theorem t2 (i:Q0):Ev e7 108 p10 p3 p12 p3:=wF (fn:=a108) (wS 2 p11 p3 (XC.seq (wC 3 ((p11.set 8 p7).set 9 k2) p3 (t1 hm hn i)) (wR (((p11.set 8 p7).set 9 k2).set 5 p7) p3)))
theorem t3 (i:Q0):Ev e7 44 [k0,p13,p14] p15 p28 p27:=wF (fn:=a44) (wS 2 p17 p3 (XC.seq (wS 1 p18 p3 (wB1 (XC.loop (LX.step (wS 1 p18 p3 (XC.seq (wB0 (wS 3 p20 p3 (XC.seq (wB0 (wU true (wC 4 p20 p3 (t2 hm hn i)))) (wN p20 p22)))) (wN (p20.set 14 k26) p22))) (wL 2 ((.exit 0),p25,p27)))))) (wR (p25.set 4 p16) p27)))
theorem t4:Ev e7 171 [k41,p29] p33 k42 p42:=wF (fn:=a171) (wS 5 p35 p39 (wO (.normal,p40,p42) (.normal,p35,p42) (.normal,p35,p42)))
theorem t5:Ev e7 111 [k41,p43] p44 k42 p42:=wF (fn:=a111) (wS 1 p45 p44 (wB1 (XC.loop (LX.step (wS 1 p45 p44 (XC.seq (wB0 (wS 3 ((p45.set 2 (.ptr 86 0)).set 7 k6) p33 (wB0 (wU true (wC 2 ((p45.set 2 (.ptr 86 0)).set 7 k6) p42 (t4 hm hn)))))) (wN p46 p42))) (wL 1 ((.exit 0),p46,p42))))))
theorem t6:Ev e7 45 p47 p48 (.sl 89 0 1 2) p42:=wF (fn:=a45) (wS 2 p49 p44 (XC.seq (wC 2 p49 p42 (t5 hm hn)) (wR (p49.set 7 (.sl 89 0 1 2)) p42)))
theorem t9 (i:Q7) (j:Q8):Ev e7 114 [k60,p61,k30,p62] p54 k2 (p60.set 83 p72):=wF (fn:=a114) (wS 2 p65 p54 (XC.seq (wC 5 p66 p54 i) (XC.seq (wB0 (wU false (wT false p66 p54 (wN (p66.set 9 p67) p54) (d7u hn (P:=fun v=>tst (callG e7 400) [] a114r10 (.t 41) p66 p54=some (.bool false,p66,p54)) (fun _ _ _ _ _ _=>⟨(by kernel_rfl),(by kernel_rfl),(by kernel_rfl),(by kernel_rfl),(by kernel_rfl),(by kernel_rfl),(by kernel_rfl),(by kernel_rfl),(by kernel_rfl),(by kernel_rfl),(by kernel_rfl),(by kernel_rfl),(by kernel_rfl)⟩))))) (wS 4 p71 p59 (XC.seq (wC 6 p71 (p60.set 83 p72) j) (wR p71 (p60.set 83 p72)))))))
theorem t11:Ev e7 171 [k65,p76] p79 k42 p85:=wF (fn:=a171) (wS 5 p81 p83 (wO (.normal,p84,p85) (.normal,p81,p85) (.normal,p81,p85)))
theorem t12:Ev e7 171 [k65,p86] p88 k42 p96:=wF (fn:=a171) (wS 5 p90 p93 (wO (.normal,p94,p96) (.normal,p90,p96) (.normal,p90,p96)))
theorem t13:Ev e7 171 [k65,p97] p99 k42 p107:=wF (fn:=a171) (wS 5 p101 p104 (wO (.normal,d7j,p107) (.normal,p101,p107) (.normal,p101,p107)))
theorem t14:Ev e7 111 [k65,a0a] b3x k42 p107:=wF (fn:=a111) (wS 1 p110 b3x (wB1 (XC.loop (LX.step (wS 1 p110 b3x (XC.seq (wB0 (wS 3 ((p110.set 2 k70).set 7 k6) p79 (wB0 (wU true (wC 2 ((p110.set 2 k70).set 7 k6) p85 (t11 hm hn)))))) (wN p111 p85))) (LX.step (wS 1 p111 p85 (XC.seq (wB0 (wS 3 (p111.set 2 k71) p88 (wB0 (wU true (wC 2 (p111.set 2 k71) p96 (t12 hm hn)))))) (wN ((p111.set 2 k71).set 6 k24) p96))) (LX.step (wS 1 ((p111.set 2 k71).set 6 k24) p96 (XC.seq (wB0 (wS 3 p112 p99 (wB0 (wU true (wC 2 p112 p107 (t13 hm hn)))))) (wN (p112.set 6 k69) p107))) (wL 1 ((.exit 0),(p112.set 6 k69),p107))))))))
theorem t15:Ev e7 45 p113 d0Y k68 p107:=wF (fn:=a45) (wS 2 p115 b3x (XC.seq (wC 2 p115 p107 (t14 hm hn)) (wR (p115.set 7 k68) p107)))
theorem t16:Ev e7 128 p10 p119 k5 p121:=wF (fn:=a128) (wS 3 p120 p121 (wZ (wS 1 (p120.set 8 k11) p121 (wB0 (wU true (XC.seq (b9T hm) (wR ((p120.set 8 k11).set 6 k5) p121)))))))
theorem t17:Ev e7 266 [k73,k11,p1] p119 k5 p121:=wF (fn:=a266) (wS 2 p122 p119 (XC.seq (wC 7 (p122.set 4 k5) p121 (t16 hm hn)) (wR (p122.set 4 k5) p121)))
theorem t18:Ev e7 232 p124 p119 p1 p121:=wF (fn:=a232) (wS 1 p125 p119 (wZ (wB0 (wU false (wU false (wU true (XC.seq (wD 4 false p125 p121 (t17 hm hn) (wN p125 p121)) (wR (p125.set 8 p7) p121))))))))
theorem t19:Ev e7 182 p124 p119 a6J p121:=wF (fn:=a182) (wS 2 p126 p119 (XC.seq (wC 5 (p126.set 11 p7) p121 (t18 hm hn)) (wR d9r p121)))
theorem t20:Ev e7 288 p130 p119 a6J p121:=wF (fn:=a288) (wS 2 p132 p119 (wZ (wU true (wS 1 (p132.set 11 p7) p119 (XC.seq (wC 6 c9U p121 (t19 hm hn)) (wR c9U p121))))))
theorem t21:Ev e7 268 p135 p74 b4N p150:=wF (fn:=a268) (wS 2 p136 d0Y (XC.seq (XC.seq (wC 14 e07 p107 (t15 hm hn)) (wB1 (XC.loop (wY 1 p140 (p119.set 104 c9x) (LX.step (wS 1 p140 (p119.set 104 c9x) (XC.seq (wB0 (wS 5 p143 p119 (XC.seq (wC 6 (p143.set 13 p7) p121 (t20 hm hn)) (wN (p143.set 13 p7) (p121.set 106 p53))))) (wN ((p143.set 13 p7).set 17 k24) (p121.set 106 p53)))) (wL 2 ((.exit 0),p147,p150))))))) (wR ((p147.set 6 B7).set 7 k5) p150)))
theorem t22 (i:Q10):Ev e7 232 (((p135.set 1 H0).set 2 U6).set 3 a3r) b40 b25 p150:=wF (fn:=a232) (wS 3 p160 p74 (XC.seq (wC 7 ((p160.set 14 p68).set 15 k5) p74 i) (wS 1 ((p160.set 14 p68).set 15 k5) p74 (XC.seq (wC 7 p161 p150 (t21 hm hn)) (wR (p161.set 8 B7) p150)))))
theorem t23 (i:Q10):Ev e7 182 (((p135.set 1 H0).set 2 U6).set 3 a3r) b40 b4N p150:=wF (fn:=a182) (wS 2 p163 b40 (XC.seq (wC 5 (p163.set 11 B7) p150 (t22 hm hn i)) (wR d83 p150)))
theorem t24 (i:Q10):Ev e7 115 p165 (p60.set 83 p72) c6t p150:=wF (fn:=a115) (wS 2 p166 b40 (XC.seq (wC 8 (p166.set 17 B7) p150 (t23 hm hn i)) (wR d9n p150)))
theorem t25 (j:Q7) (l:Q8) (i:Q10):Ev e7 47 [k60,p61,a3r] (p42.set 83 p50) b25 (p150.set 83 a0q):=wF (fn:=a47) (wS 4 p169 p54 (XC.seq (wU true (wS 2 ((p169.set 8 k30).set 9 R7) p54 (wC 4 ((p169.set 8 k30).set 9 R7) (p60.set 83 p72) (t9 hm hn j l)))) (wS 1 ((p169.set 8 k30).set 9 R7) (p60.set 83 p72) (XC.seq (wC 25 p171 p150 (t24 hm hn i)) (wR d8r (p150.set 83 a0q))))))
theorem t26 (j:Q0) (l:Q7) (t:Q8) (i:Q10):Ev e7 20 p174 (a7k v.C) b9n ((p150.set 83 a0q).set 84 M2):=wF (fn:=a20) (wS 4 p177 p15 (XC.seq (wC 4 (p177.set 12 p16) p27 (t3 hm hn j)) (wS 3 p178 p48 (XC.seq (XC.seq (wC 5 p179 p42 (t6 hm hn)) (wB1 (XC.loop (LX.step (wS 1 p179 p42 (XC.seq (wB0 (wS 4 p180 (p42.set 83 p50) (XC.seq (wC 3 (p180.set 18 B7) (p150.set 83 a0q) (t25 hm hn l t i)) (wN (p180.set 18 B7) ((p150.set 83 a0q).set 84 M2))))) (wN ((p180.set 18 B7).set 21 k26) ((p150.set 83 a0q).set 84 M2)))) (wL 1 ((.exit 0),((p180.set 18 B7).set 21 k26),((p150.set 83 a0q).set 84 M2))))))) (wR e1l ((p150.set 83 a0q).set 84 M2))))))
theorem doA (j:Q0) (l:Q7) (t:Q8) (i:Q10):Ev e7 9 [k0,k49,W.txt1,p14] a6M b9n ((p150.set 83 a0q).set 84 M2):=wF (fn:=a9) (wS 1 p186 a6M (XC.seq (wC 2 p187 (a7k v.C) (d0F v.C)) (wS 1 p187 (a7k v.C) (XC.seq (wC 4 c74 ((p150.set 83 a0q).set 84 M2) (t26 hm hn j l t i)) (wR c74 ((p150.set 83 a0q).set 84 M2))))))
theorem t29 (i:Q28):Ev e7 169 p5 Q6 p4 Q6:=wF (fn:=a169) (wS 4 p9 Q6 (XC.seq (wC 4 ((p9.set 6 p7).set 7 k5) Q6 i) (wR ((p9.set 6 p7).set 7 k5) Q6)))
theorem t30 (i:Q28):Ev e7 108 p10 Q6 p12 Q6:=wF (fn:=a108) (wS 2 p11 Q6 (XC.seq (wC 3 ((p11.set 8 p7).set 9 k2) Q6 (t29 hm hn i)) (wR (((p11.set 8 p7).set 9 k2).set 5 p7) Q6)))
theorem t31 (i:Q28):Ev e7 44 [k0,p13,p14] b32 p28 a5C:=wF (fn:=a44) (wS 2 (p17.set 7 k86) Q6 (XC.seq (wS 1 (p18.set 7 k86) Q6 (wB1 (XC.loop (LX.step (wS 1 (p18.set 7 k86) Q6 (XC.seq (wB0 (wS 3 (p20.set 7 k86) Q6 (XC.seq (wB0 (wU true (wC 4 (p20.set 7 k86) Q6 (t30 hm hn i)))) (wN (p20.set 7 k86) c75)))) (wN ((p20.set 7 k86).set 14 k26) c75))) (wL 2 ((.exit 0),(p25.set 7 k86),a5C)))))) (wR ((p25.set 7 k86).set 4 p16) a5C)))
theorem t32:Ev e7 171 [k83,p29] p196 k42 p201:=wF (fn:=a171) (wS 5 ((p35.set 0 k83).set 3 (.ptr 87 0)) p198 (wO (.normal,d7U,p201) (.normal,((p35.set 0 k83).set 3 (.ptr 87 0)),p201) (.normal,((p35.set 0 k83).set 3 (.ptr 87 0)),p201)))
theorem t33:Ev e7 111 [k83,p43] b3I k42 p201:=wF (fn:=a111) (wS 1 (p45.set 0 k83) b3I (wB1 (XC.loop (LX.step (wS 1 (p45.set 0 k83) b3I (XC.seq (wB0 (wS 3 p203 p196 (wB0 (wU true (wC 2 p203 p201 (t32 hm hn)))))) (wN (p203.set 6 k26) p201))) (wL 1 ((.exit 0),(p203.set 6 k26),p201))))))
theorem t34:Ev e7 45 (p47.set 1 k88) d0z (.sl 88 0 1 2) p201:=wF (fn:=a45) (wS 2 p205 b3I (XC.seq (wC 2 p205 p201 (t33 hm hn)) (wR (p205.set 7 (.sl 88 0 1 2)) p201)))
theorem t35:Ev e7 171 [k91,p76] p210 k42 a3M:=wF (fn:=a171) (wS 5 ((p81.set 0 k91).set 3 k70) p212 (wO (.normal,d5M,a3M) (.normal,((p81.set 0 k91).set 3 k70),a3M) (.normal,((p81.set 0 k91).set 3 k70),a3M)))
theorem t36:Ev e7 171 [k91,p86] p215 k42 a3K:=wF (fn:=a171) (wS 5 ((p90.set 0 k91).set 3 k71) p218 (wO (.normal,d8h,a3K) (.normal,((p90.set 0 k91).set 3 k71),a3K) (.normal,((p90.set 0 k91).set 3 k71),a3K)))
theorem t37:Ev e7 171 [k91,p97] p222 k42 p228:=wF (fn:=a171) (wS 5 ((p101.set 0 k91).set 3 k72) p225 (wO (.normal,d6K,p228) (.normal,((p101.set 0 k91).set 3 k72),p228) (.normal,((p101.set 0 k91).set 3 k72),p228)))
theorem t38:Ev e7 111 [k91,a0a] b2V k42 p228:=wF (fn:=a111) (wS 1 (p110.set 0 k91) b2V (wB1 (XC.loop (LX.step (wS 1 (p110.set 0 k91) b2V (XC.seq (wB0 (wS 3 p230 p210 (wB0 (wU true (wC 2 p230 a3M (t35 hm hn)))))) (wN (p230.set 6 k26) a3M))) (LX.step (wS 1 (p230.set 6 k26) a3M (XC.seq (wB0 (wS 3 ((p230.set 6 k26).set 2 (.ptr 111 0)) p215 (wB0 (wU true (wC 2 ((p230.set 6 k26).set 2 (.ptr 111 0)) a3K (t36 hm hn)))))) (wN p231 a3K))) (LX.step (wS 1 p231 a3K (XC.seq (wB0 (wS 3 (p231.set 2 (.ptr 116 0)) p222 (wB0 (wU true (wC 2 (p231.set 2 (.ptr 116 0)) p228 (t37 hm hn)))))) (wN ((p231.set 2 (.ptr 116 0)).set 6 k69) p228))) (wL 1 ((.exit 0),((p231.set 2 (.ptr 116 0)).set 6 k69),p228))))))))
theorem t39:Ev e7 45 (p113.set 1 k88) c7b k94 p228:=wF (fn:=a45) (wS 2 p233 b2V (XC.seq (wC 2 p233 p228 (t38 hm hn)) (wR (p233.set 7 k94) p228)))
theorem t40:Ev e7 128 p10 p235 k5 p236:=wF (fn:=a128) (wS 3 ((p120.set 3 (.ptr 123 0)).set 4 (.ptr 124 0)) p236 (wZ (wS 1 p237 p236 (wB0 (wU true (XC.seq (b9T hm) (wR (p237.set 6 k5) p236)))))))
theorem t41:Ev e7 266 [k95,k11,p1] p235 k5 p236:=wF (fn:=a266) (wS 2 (p122.set 0 k95) p235 (XC.seq (wC 7 ((p122.set 0 k95).set 4 k5) p236 (t40 hm hn)) (wR ((p122.set 0 k95).set 4 k5) p236)))
theorem t42:Ev e7 232 c8x p235 p1 p236:=wF (fn:=a232) (wS 1 p239 p235 (wZ (wB0 (wU false (wU false (wU true (XC.seq (wD 4 false p239 p236 (t41 hm hn) (wN p239 p236)) (wR (p239.set 8 p7) p236))))))))
theorem t43:Ev e7 182 c8x p235 a6J p236:=wF (fn:=a182) (wS 2 p240 p235 (XC.seq (wC 5 (p240.set 11 p7) p236 (t42 hm hn)) (wR e0j p236)))
theorem t44:Ev e7 288 d7L p235 a6J p236:=wF (fn:=a288) (wS 2 p243 p235 (wZ (wU true (wS 1 (p243.set 11 p7) p235 (XC.seq (wC 6 c78 p236 (t43 hm hn)) (wR c78 p236))))))
theorem t45:Ev e7 268 (p135.set 0 k95) c9r b4N p252:=wF (fn:=a268) (wS 2 ((p136.set 0 k95).set 8 k73) c7b (XC.seq (XC.seq (wC 14 d7N p228 (t39 hm hn)) (wB1 (XC.loop (wY 1 p247 (p235.set 102 c73) (LX.step (wS 1 p247 (p235.set 102 c73) (XC.seq (wB0 (wS 5 p249 p235 (XC.seq (wC 6 (p249.set 13 p7) p236 (t44 hm hn)) (wN (p249.set 13 p7) (p236.set 104 p53))))) (wN ((p249.set 13 p7).set 17 k24) (p236.set 104 p53)))) (wL 2 ((.exit 0),p250,p252))))))) (wR ((p250.set 6 B7).set 7 k5) p252)))
theorem t46:Ev e7 232 d0O b2G b25 p252:=wF (fn:=a232) (wS 5 p257 c9r (XC.seq (wC 7 (p257.set 16 B7) p252 (t45 hm hn)) (wR ((p257.set 16 B7).set 8 B7) p252)))
theorem t47:Ev e7 182 d0O b2G b4N p252:=wF (fn:=a182) (wS 2 p258 b2G (XC.seq (wC 5 (p258.set 11 B7) p252 (t46 hm hn)) (wR e0i p252)))
theorem t48:Ev e7 115 e04 c5u c6t p252:=wF (fn:=a115) (wS 2 p262 b2G (XC.seq (wC 8 (p262.set 17 B7) p252 (t47 hm hn)) (wR d8L p252)))
theorem t49:Ev e7 47 [(.ptr 82 0),p61,a5r] (p201.set 82 c9s) b25 (p252.set 82 a0b):=wF (fn:=a47) (wS 6 p265 c5u (XC.seq (wC 25 p266 p252 (t48 hm hn)) (wR e0P (p252.set 82 a0b))))
theorem t50 (i:Q28):Ev e7 20 p269 W.T_rd1 b8B ((p252.set 82 a0b).set 83 M2):=wF (fn:=a20) (wS 4 p270 b32 (XC.seq (wC 4 (p270.set 12 p16) a5C (t31 hm hn i)) (wS 3 p271 d0z (XC.seq (XC.seq (wC 5 p272 p201 (t34 hm hn)) (wB1 (XC.loop (LX.step (wS 1 p272 p201 (XC.seq (wB0 (wS 4 p273 (p201.set 82 c9s) (XC.seq (wC 3 (p273.set 18 B7) (p252.set 82 a0b) (t49 hm hn)) (wN (p273.set 18 B7) ((p252.set 82 a0b).set 83 M2))))) (wN ((p273.set 18 B7).set 21 k26) ((p252.set 82 a0b).set 83 M2)))) (wL 1 ((.exit 0),((p273.set 18 B7).set 21 k26),((p252.set 82 a0b).set 83 M2))))))) (wR d7S ((p252.set 82 a0b).set 83 M2))))))
theorem doZ (i:Q28):Ev e7 9 [k0,k99,W.txt1,p14] T_b0 b8B ((p252.set 82 a0b).set 83 M2):=wF (fn:=a9) (wS 1 ((p186.set 1 k99).set 4 k82) T_b0 (XC.seq (wC 2 p276 W.T_rd1 c5R) (wS 1 p276 W.T_rd1 (XC.seq (wC 4 ((p276.set 6 b92).set 7 b7c) ((p252.set 82 a0b).set 83 M2) (t50 hm hn i)) (wR ((p276.set 6 b92).set 7 b7c) ((p252.set 82 a0b).set 83 M2))))))
theorem t53 (i:Q52):Ev e7 169 p5 R4 p4 R4:=wF (fn:=a169) (wS 4 p9 R4 (XC.seq (wC 4 ((p9.set 6 p7).set 7 k5) R4 i) (wR ((p9.set 6 p7).set 7 k5) R4)))
theorem t54 (i:Q52):Ev e7 108 p10 R4 p12 R4:=wF (fn:=a108) (wS 2 p11 R4 (XC.seq (wC 3 ((p11.set 8 p7).set 9 k2) R4 (t53 hm hn i)) (wR (((p11.set 8 p7).set 9 k2).set 5 p7) R4)))
theorem t55 (i:Q52):Ev e7 44 [k0,a9W,p14] b20 d6p a3f:=wF (fn:=a44) (wS 2 p281 d0P (XC.seq (wS 1 d68 d0P (wB1 (XC.loop (wY 1 p284 R4 (LX.step (wS 1 p284 R4 (XC.seq (wB0 (wS 3 ((p284.set 8 p19).set 9 p7) R4 (XC.seq (wB0 (wU true (wC 4 ((p284.set 8 p19).set 9 p7) R4 (t54 hm hn i)))) (wN ((p284.set 8 p19).set 9 p7) a3f)))) (wN p287 a3f))) (wL 1 ((.exit 0),p287,a3f))))))) (wR (p287.set 4 a6W) a3f)))
theorem t56:Ev e7 171 [a3m,b8L] p294 k42 a4p:=wF (fn:=a171) (wS 5 p296 p300 (wO (.normal,d6b,a4p) (.normal,p296,a4p) (.normal,p296,a4p)))
theorem t57:Ev e7 171 [a3m,b64] p306 k42 p314:=wF (fn:=a171) (wS 5 p308 p311 (wO (.normal,d89,p314) (.normal,p308,p314) (.normal,p308,p314)))
theorem t58:Ev e7 111 [a3m,b0p] b2C k42 p314:=wF (fn:=a111) (wS 1 p317 b2C (wB1 (XC.loop (LX.step (wS 1 p317 b2C (XC.seq (wB0 (wS 3 ((p317.set 2 (.ptr 134 0)).set 7 k6) p294 (wB0 (wU true (wC 2 ((p317.set 2 (.ptr 134 0)).set 7 k6) a4p (t56 hm hn)))))) (wN p318 a4p))) (LX.step (wS 1 p318 a4p (XC.seq (wB0 (wS 3 (p318.set 2 (.ptr 139 0)) p306 (wB0 (wU true (wC 2 (p318.set 2 (.ptr 139 0)) p314 (t57 hm hn)))))) (wN ((p318.set 2 (.ptr 139 0)).set 6 k24) p314))) (wL 1 ((.exit 0),((p318.set 2 (.ptr 139 0)).set 6 k24),p314)))))))
theorem t59:Ev e7 45 p320 c7i (.sl 142 0 2 2) p314:=wF (fn:=a45) (wS 2 p322 b2C (XC.seq (wC 2 p322 p314 (t58 hm hn)) (wR (p322.set 7 (.sl 142 0 2 2)) p314)))
theorem t62 (i:Q60) (j:Q61):Ev e7 114 [a2W,a4k,k30,b8R] a3j k2 (p332.set 131 a4d):=wF (fn:=a114) (wS 2 p337 a3j (XC.seq (wC 5 ((p337.set 9 p68).set 10 k5) a3j i) (wS 5 b83 b0c (XC.seq (wC 6 b83 (p332.set 131 a4d) j) (wR b83 (p332.set 131 a4d))))))
theorem t64:Ev e7 171 [a0R,p86] p347 k42 a3P:=wF (fn:=a171) (wS 5 p348 p350 (wO (.normal,e0o,a3P) (.normal,p348,a3P) (.normal,p348,a3P)))
theorem t65:Ev e7 171 [a0R,p97] p353 k42 a3Y:=wF (fn:=a171) (wS 5 p354 p357 (wO (.normal,d7P,a3Y) (.normal,p354,a3Y) (.normal,p354,a3Y)))
theorem t66:Ev e7 171 [a0R,b9o] p363 k42 p371:=wF (fn:=a171) (wS 5 p365 p368 (wO (.normal,d96,p371) (.normal,p365,p371) (.normal,p365,p371)))
theorem t67:Ev e7 111 [a0R,a3D] b2W k42 p371:=wF (fn:=a111) (wS 1 p374 b2W (wB1 (XC.loop (LX.step (wS 1 p374 b2W (XC.seq (wB0 (wS 3 ((p374.set 2 (.ptr 166 0)).set 7 k6) p347 (wB0 (wU true (wC 2 ((p374.set 2 (.ptr 166 0)).set 7 k6) a3P (t64 hm hn)))))) (wN p375 a3P))) (LX.step (wS 1 p375 a3P (XC.seq (wB0 (wS 3 (p375.set 2 (.ptr 171 0)) p353 (wB0 (wU true (wC 2 (p375.set 2 (.ptr 171 0)) a3Y (t65 hm hn)))))) (wN ((p375.set 2 (.ptr 171 0)).set 6 k24) a3Y))) (LX.step (wS 1 ((p375.set 2 (.ptr 171 0)).set 6 k24) a3Y (XC.seq (wB0 (wS 3 p376 p363 (wB0 (wU true (wC 2 p376 p371 (t66 hm hn)))))) (wN (p376.set 6 k69) p371))) (wL 1 ((.exit 0),(p376.set 6 k69),p371))))))))
theorem t68:Ev e7 45 p377 d15 b0z p371:=wF (fn:=a45) (wS 2 p379 b2W (XC.seq (wC 2 p379 p371 (t67 hm hn)) (wR (p379.set 7 b0z) p371)))
theorem t69:Ev e7 268 p381 a2a c8o p386:=wF (fn:=a268) (wS 2 p382 d15 (XC.seq (XC.seq (wC 14 d6B p371 (t68 hm hn)) (wN p390 p386)) (wR ((p390.set 6 U4).set 7 k5) p386)))
theorem t70 (i:Q63):Ev e7 232 (((p381.set 1 H0).set 2 U6).set 3 a3A) b2J d1p p386:=wF (fn:=a232) (wS 3 p396 a2a (XC.seq (wC 7 ((p396.set 14 a5u).set 15 k5) a2a i) (wS 1 ((p396.set 14 a5u).set 15 k5) a2a (XC.seq (wC 7 p397 p386 (t69 hm hn)) (wR (p397.set 8 U4) p386)))))
theorem t71 (i:Q63):Ev e7 182 (((p381.set 1 H0).set 2 U6).set 3 a3A) b2J c8o p386:=wF (fn:=a182) (wS 2 p399 b2J (XC.seq (wC 5 (p399.set 11 U4) p386 (t70 hm hn i)) (wR d7h p386)))
theorem t72 (i:Q63):Ev e7 115 p401 (p332.set 131 a4d) d54 p386:=wF (fn:=a115) (wS 2 p402 b2J (XC.seq (wC 8 (p402.set 17 U4) p386 (t71 hm hn i)) (wR d75 p386)))
theorem t73 (i:Q60) (j:Q61) (l:Q63):Ev e7 47 [a2W,a4k,a3A] (p314.set 131 b8W) d1p (p386.set 131 a4c):=wF (fn:=a47) (wS 4 p405 a3j (XC.seq (wU true (wS 2 ((p405.set 8 k30).set 9 R7) a3j (wC 4 ((p405.set 8 k30).set 9 R7) (p332.set 131 a4d) (t62 hm hn i j)))) (wS 1 ((p405.set 8 k30).set 9 R7) (p332.set 131 a4d) (XC.seq (wC 25 p406 p386 (t72 hm hn l)) (wR e1q (p386.set 131 a4c))))))
theorem t76 (i:Q74) (j:Q75):Ev e7 114 [a2W,a4k,k30,b3p] a3q k2 (p418.set 131 a3E):=wF (fn:=a114) (wS 2 ((p337.set 3 b3p).set 5 b4H) a3q (XC.seq (wC 5 d72 a3q i) (wS 5 b9s a9v (XC.seq (wC 6 b9s (p418.set 131 a3E) j) (wR b9s (p418.set 131 a3E))))))
theorem t78:Ev e7 171 [a1k,p86] p429 k42 p433:=wF (fn:=a171) (wS 5 ((p348.set 0 a1k).set 3 (.ptr 200 0)) p431 (wO (.normal,d8m,p433) (.normal,((p348.set 0 a1k).set 3 (.ptr 200 0)),p433) (.normal,((p348.set 0 a1k).set 3 (.ptr 200 0)),p433)))
theorem t79:Ev e7 111 [a1k,a1Y] b2T k42 p433:=wF (fn:=a111) (wS 1 p436 b2T (wB1 (XC.loop (LX.step (wS 1 p436 b2T (XC.seq (wB0 (wS 3 ((p436.set 2 (.ptr 198 0)).set 7 k6) p429 (wB0 (wU true (wC 2 ((p436.set 2 (.ptr 198 0)).set 7 k6) p433 (t78 hm hn)))))) (wN c7q p433))) (wL 1 ((.exit 0),c7q,p433))))))
theorem t80:Ev e7 45 (p377.set 3 a1Y) c9e a9O p433:=wF (fn:=a45) (wS 2 ((p379.set 3 a1Y).set 8 a1k) b2T (XC.seq (wC 2 ((p379.set 3 a1Y).set 8 a1k) p433 (t79 hm hn)) (wR d6V p433)))
theorem t81:Ev e7 128 p10 (p433.set 194 a0U) k5 p442:=wF (fn:=a128) (wS 3 p441 p442 (wZ (wS 1 (p441.set 8 k11) p442 (wB0 (wU true (XC.seq (b9T hm) (wR ((p441.set 8 k11).set 6 k5) p442)))))))
theorem t82:Ev e7 266 [a0r,k11,p1] (p433.set 194 a0U) k5 p442:=wF (fn:=a266) (wS 2 ((p122.set 0 k95).set 0 a0r) (p433.set 194 a0U) (XC.seq (wC 7 p443 p442 (t81 hm hn)) (wR p443 p442)))
theorem t83:Ev e7 232 d06 (p433.set 194 a0U) p1 p442:=wF (fn:=a232) (wS 1 p445 (p433.set 194 a0U) (wZ (wB0 (wU false (wU false (wU true (XC.seq (wD 4 false p445 p442 (t82 hm hn) (wN p445 p442)) (wR (p445.set 8 p7) p442))))))))
theorem t84:Ev e7 182 d06 (p433.set 194 a0U) a6J p442:=wF (fn:=a182) (wS 2 p446 (p433.set 194 a0U) (XC.seq (wC 5 (p446.set 11 p7) p442 (t83 hm hn)) (wR d7K p442)))
theorem t85:Ev e7 288 d5z (p433.set 194 a0U) a6J p442:=wF (fn:=a288) (wS 2 p449 (p433.set 194 a0U) (wZ (wU true (wS 1 (p449.set 11 p7) (p433.set 194 a0U) (XC.seq (wC 6 c5E p442 (t84 hm hn)) (wR c5E p442))))))
theorem t86:Ev e7 268 p451 a1X c9B (p442.set 196 M1):=wF (fn:=a268) (wS 2 p452 c9e (XC.seq (XC.seq (wC 14 c9c p433 (t80 hm hn)) (wB1 (XC.loop (LX.step (wS 1 c9c p433 (XC.seq (wB0 (wS 5 p454 (p433.set 194 a0U) (XC.seq (wC 6 ((p454.set 13 p7).set 14 k5) p442 (t85 hm hn)) (wN ((p454.set 13 p7).set 14 k5) (p442.set 196 M1))))) (wN p455 (p442.set 196 M1)))) (wL 1 ((.exit 0),p455,(p442.set 196 M1))))))) (wR ((p455.set 6 S4).set 7 k5) (p442.set 196 M1))))
theorem t87 (i:Q77):Ev e7 232 c5j b3g c7M (p442.set 196 M1):=wF (fn:=a232) (wS 3 p459 a1X (XC.seq (wC 7 ((p459.set 14 Y4).set 15 k5) a1X i) (wS 1 ((p459.set 14 Y4).set 15 k5) a1X (XC.seq (wC 7 p460 (p442.set 196 M1) (t86 hm hn)) (wR (p460.set 8 S4) (p442.set 196 M1))))))
theorem t88 (i:Q77):Ev e7 182 c5j b3g c9B (p442.set 196 M1):=wF (fn:=a182) (wS 2 p462 b3g (XC.seq (wC 5 (p462.set 11 S4) (p442.set 196 M1) (t87 hm hn i)) (wR e0k (p442.set 196 M1))))
theorem t89 (i:Q77):Ev e7 115 d9V (p418.set 131 a3E) e0h (p442.set 196 M1):=wF (fn:=a115) (wS 2 p465 b3g (XC.seq (wC 8 (p465.set 17 S4) (p442.set 196 M1) (t88 hm hn i)) (wR d9f (p442.set 196 M1))))
theorem t90 (i:Q74) (j:Q75) (l:Q77):Ev e7 47 d8Y p469 c7M ((p442.set 196 M1).set 131 b36):=wF (fn:=a47) (wS 4 p470 a3q (XC.seq (wU true (wS 2 ((p470.set 8 k30).set 9 R7) a3q (wC 4 ((p470.set 8 k30).set 9 R7) (p418.set 131 a3E) (t76 hm hn i j)))) (wS 1 ((p470.set 8 k30).set 9 R7) (p418.set 131 a3E) (XC.seq (wC 25 p471 (p442.set 196 M1) (t89 hm hn l)) (wR d9R ((p442.set 196 M1).set 131 b36))))))
theorem t91 (i:Q52) (j:Q60) (l:Q61) (t:Q63) (u:Q74) (x:Q75) (y:Q77):Ev e7 20 p474 (a6D v.C) b8G a0g:=wF (fn:=a20) (wS 4 p476 b20 (XC.seq (wC 4 (p476.set 12 a6W) a3f (t55 hm hn i)) (wS 3 p477 c7i (XC.seq (XC.seq (wC 5 p478 p314 (t59 hm hn)) (wB1 (XC.loop (LX.step (wS 1 p478 p314 (XC.seq (wB0 (wS 4 p479 (p314.set 131 b8W) (XC.seq (wC 3 (p479.set 18 U4) (p386.set 131 a4c) (t73 hm hn j l t)) (wN (p479.set 18 U4) (p469.set 131 a4c))))) (wN ((p479.set 18 U4).set 21 k26) (p469.set 131 a4c)))) (LX.step (wS 1 ((p479.set 18 U4).set 21 k26) (p469.set 131 a4c) (XC.seq (wB0 (wS 4 p480 p469 (XC.seq (wC 3 (p480.set 18 S4) ((p442.set 196 M1).set 131 b36) (t90 hm hn u x y)) (wN (p480.set 18 S4) a0g)))) (wN ((p480.set 18 S4).set 21 k24) a0g))) (wL 1 ((.exit 0),((p480.set 18 S4).set 21 k24),a0g))))))) (wR e0t a0g)))))
theorem doB (i:Q52) (j:Q60) (l:Q61) (t:Q63) (u:Q74) (x:Q75) (y:Q77):Ev e7 9 c6d a6M b8G a0g:=wF (fn:=a9) (wS 1 p487 a6M (XC.seq (wC 2 p488 (a6D v.C) (c8l v.C)) (wS 1 p488 (a6D v.C) (XC.seq (wC 4 c6e a0g (t91 hm hn i j l t u x y)) (wR c6e a0g)))))
theorem t93:Ev e7 171 [a6L,b8c] p495 k42 p504:=wF (fn:=a171) (wS 5 p497 p501 (wO (.normal,d6J,p504) (.normal,p497,p504) (.normal,p497,p504)))
theorem t94:Ev e7 111 [a6L,a9p] b2X k42 p504:=wF (fn:=a111) (wS 1 p507 b2X (wB1 (XC.loop (LX.step (wS 1 p507 b2X (XC.seq (wB0 (wS 3 ((p507.set 2 (.ptr 233 0)).set 7 k6) p495 (wB0 (wU true (wC 2 ((p507.set 2 (.ptr 233 0)).set 7 k6) p504 (t93 hm hn)))))) (wN d1t p504))) (wL 1 ((.exit 0),d1t,p504))))))
theorem t95:Ev e7 45 p510 d05 (.sl 236 0 1 2) p504:=wF (fn:=a45) (wS 2 p513 b2X (XC.seq (wC 2 p513 p504 (t94 hm hn)) (wR (p513.set 7 (.sl 236 0 1 2)) p504)))
theorem t97 (i:Q96):Ev e7 114 [(.ptr 230 0),b2l,k30,c8O] W6 k2 W6:=wF (fn:=a114) (wS 2 p521 W6 (XC.seq (wC 5 ((p521.set 9 Y4).set 10 k5) W6 i) (wR ((p521.set 9 Y4).set 10 k5) W6)))
theorem t99:Ev e7 171 [a6H,p97] p525 k42 p530:=wF (fn:=a171) (wS 5 p526 p528 (wO (.normal,d55,p530) (.normal,p526,p530) (.normal,p526,p530)))
theorem d7p:Ev e7 111 [a6H,a3N] b3C k42 p530:=wF (fn:=a111) (wS 1 p533 b3C (wB1 (XC.loop (LX.step (wS 1 p533 b3C (XC.seq (wB0 (wS 3 ((p533.set 2 (.ptr 245 0)).set 7 k6) p525 (wB0 (wU true (wC 2 ((p533.set 2 (.ptr 245 0)).set 7 k6) p530 (t99 hm hn)))))) (wN c7v p530))) (wL 1 ((.exit 0),c7v,p530))))))
theorem d6h:Ev e7 45 e0M c8e b0h p530:=wF (fn:=a45) (wS 2 p537 b3C (XC.seq (wC 2 p537 p530 (d7p hm hn)) (wR (p537.set 7 b0h) p530)))
theorem e0Z:Ev e7 268 p539 a2i c9h p544:=wF (fn:=a268) (wS 2 p540 c8e (XC.seq (XC.seq (wC 14 e1i p530 (d6h hm hn)) (wN p547 p544)) (wR ((p547.set 6 U5).set 7 k5) p544)))
theorem d9W (i:Q98):Ev e7 232 (((p539.set 1 H0).set 2 U6).set 3 a3W) b4D d0x p544:=wF (fn:=a232) (wS 3 p553 a2i (XC.seq (wC 7 ((p553.set 14 Y4).set 15 k5) a2i i) (wS 1 ((p553.set 14 Y4).set 15 k5) a2i (XC.seq (wC 7 p554 p544 (e0Z hm hn)) (wR (p554.set 8 U5) p544)))))
theorem d50 (i:Q98):Ev e7 182 (((p539.set 1 H0).set 2 U6).set 3 a3W) b4D c9h p544:=wF (fn:=a182) (wS 2 p556 b4D (XC.seq (wC 5 (p556.set 11 U5) p544 (d9W hm hn i)) (wR e0A p544)))
theorem d8o (i:Q98):Ev e7 115 d7H W6 d8P p544:=wF (fn:=a115) (wS 2 p559 b4D (XC.seq (wC 8 (p559.set 17 U5) p544 (d50 hm hn i)) (wR d8E p544)))
theorem d8H (j:Q96) (l:Q98) (i:b2B):Ev e7 47 [(.ptr 230 0),b2l,a3W] (p504.set 230 b65) d0x (p563.set 230 Z5):=wF (fn:=a47) (wS 4 p564 W6 (XC.seq (wU true (wS 2 ((p564.set 8 k30).set 9 R7) W6 (wC 4 ((p564.set 8 k30).set 9 R7) W6 (t97 hm hn j)))) (wS 1 ((p564.set 8 k30).set 9 R7) W6 (XC.seq (wC 25 p565 p544 (d8o hm hn l)) (wS 1 p565 (p544.set 230 a7j) (XC.seq (wS 1 (p565.set 13 b2x) (p544.set 230 a7j) (wU true (wC 6 (p565.set 13 b2x) (p563.set 230 Z5) i))) (wR d6q (p563.set 230 Z5))))))))
theorem d6r (j:Q96) (l:Q98) (i:b2B):Ev e7 20 d52 a5X b8O ((p563.set 230 Z5).set 231 a2g):=wF (fn:=a20) (wS 8 p570 d05 (XC.seq (XC.seq (wC 5 p571 p504 (t95 hm hn)) (wB1 (XC.loop (LX.step (wS 1 p571 p504 (XC.seq (wB0 (wS 4 p572 (p504.set 230 b65) (XC.seq (wC 3 (p572.set 18 U5) (p563.set 230 Z5) (d8H hm hn j l i)) (wN (p572.set 18 U5) ((p563.set 230 Z5).set 231 a2g))))) (wN ((p572.set 18 U5).set 21 k26) ((p563.set 230 Z5).set 231 a2g)))) (wL 1 ((.exit 0),((p572.set 18 U5).set 21 k26),((p563.set 230 Z5).set 231 a2g))))))) (wR e1e ((p563.set 230 Z5).set 231 a2g))))
theorem doD (j:Q96) (l:Q98) (i:b2B):Ev e7 9 d0R a0g b8O ((p563.set 230 Z5).set 231 a2g):=wF (fn:=a9) (wS 1 p578 a0g (XC.seq (wC 2 p579 a5X c8W) (wS 1 p579 a5X (XC.seq (wC 4 c9H ((p563.set 230 Z5).set 231 a2g) (d6r hm hn j l i)) (wR c9H ((p563.set 230 Z5).set 231 a2g))))))
end
end Go.Cb.CodeA
